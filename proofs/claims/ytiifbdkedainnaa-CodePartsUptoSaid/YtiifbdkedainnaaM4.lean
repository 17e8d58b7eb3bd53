/- Part 4 of the proofs of seat Ytiifbdkedainnaa: what the texts behind it lean on (abstract memory, walks of functions, plain laws). -/
import Derived.Test.YtiifbdkedainnaaM3

set_option maxHeartbeats 8000000
set_option maxRecDepth 100000
set_option linter.unusedVariables false
set_option linter.unusedSimpArgs false
set_option linter.unusedSectionVars false
namespace Go.Proofs.Ytiifbdkedainnaa.Y
open Go.Proofs.Ytiifbdkedainnaa.AL Go.Proofs Go
attribute [local irreducible] AWP AWL AWG AWR AWE AWX AWO AWSeq AWSG AWSR AWSO AWSE AWSF GoodP OGW OGR OGE OGX PGW PGR PGE Wk AWLoop AWPD AWLD
theorem dr29_14_X11a : Drawn Try.prog 14 (regOps 14 ((Try.f29.body).getD .skip)) [11] [] [.win [0], .win [0], .win [0], .win [0], .win [0], .win [0], .win [0], .win [0], .win [0], .win [0], .win [0], .eff 0, .win [1], .win [1], .win [1], .win [1], .win [1], .win [1], .win [1], .win [1], .win [1], .win [1], .win [1], .win [1], .win [1], .win [1]] 1 [] := ⟨rfl, by as_aux_lemma => kernel_rfl⟩
theorem dr29_16_X11a : Drawn Try.prog 16 (regOps 16 ((Try.f29.body).getD .skip)) [] [] [.win [0], .win [0], .win [0], .win [0], .win [0], .win [0], .win [0], .win [0], .win [0], .win [0], .win [0], .win [0], .win [0], .win [0], .win [0], .win [0], .win [0]] 0 [] := ⟨rfl, by as_aux_lemma => kernel_rfl⟩

def effC : List AV := effP.map AV.pv
theorem effC_len : effC.length = 28 := rfl
theorem effC_under {t : TypeId} {m : Nat} : (AObj.cells t effC).under m := by
  intro c hc
  obtain ⟨p, _, rfl⟩ := List.mem_map.1 hc
  simp only [AV.under]
theorem hdr_under {t : TypeId} {n k : Nat} : (AObj.cells t [.os n 0 k k]).under (n + 3) := by
  intro c hc
  rw [List.mem_singleton] at hc
  subst hc
  simp only [AV.under]; omega
theorem effC_get {op : Int} (h : 1 ≤ op ∧ op ≤ 13) : effC[op.toNat * 2]? = some (.i (takes op)) ∧ effC[op.toNat * 2 + 1]? = some (.i (puts op)) := by
  obtain ⟨n, rfl⟩ : ∃ n : Nat, op = n := ⟨op.toNat, by omega⟩
  have h1 : 1 ≤ n := by omega
  have h2 : n ≤ 13 := by omega
  have key : ∀ n : Fin 14, 1 ≤ n.val → effC[n.val * 2]? = some (.i (takes n.val)) ∧ effC[n.val * 2 + 1]? = some (.i (puts n.val)) := by
    intro n hn
    match n, hn with
    | ⟨1, _⟩, _ => exact ⟨rfl, rfl⟩
    | ⟨2, _⟩, _ => exact ⟨rfl, rfl⟩
    | ⟨3, _⟩, _ => exact ⟨rfl, rfl⟩
    | ⟨4, _⟩, _ => exact ⟨rfl, rfl⟩
    | ⟨5, _⟩, _ => exact ⟨rfl, rfl⟩
    | ⟨6, _⟩, _ => exact ⟨rfl, rfl⟩
    | ⟨7, _⟩, _ => exact ⟨rfl, rfl⟩
    | ⟨8, _⟩, _ => exact ⟨rfl, rfl⟩
    | ⟨9, _⟩, _ => exact ⟨rfl, rfl⟩
    | ⟨10, _⟩, _ => exact ⟨rfl, rfl⟩
    | ⟨11, _⟩, _ => exact ⟨rfl, rfl⟩
    | ⟨12, _⟩, _ => exact ⟨rfl, rfl⟩
    | ⟨13, _⟩, _ => exact ⟨rfl, rfl⟩
  exact key ⟨n, by omega⟩ h1
theorem reach_runN (hs : List Int) (n : Nat) (hn' : hs.length = n) (nn : Int) (hnn : 0 ≤ nn ∧ nn < n) (h : Int) (t : TypeId) (cid rid : Nat) (H0 : List AObj) (hc : H0[cid]? = some (.cells t [.os rid 0 n n])) (hr : H0[rid]? = some (rW hs)) (hne : rid ≠ cid) :
    ARun Try.prog 49 [.i nn, .i h, .p cid 0] H0 (.ret (.b (hs.getD nn.toNat 0 == -1 || hs.getD nn.toNat 0 == h)) (H0.set rid (rW (hs.set nn.toNat h)))) := by
  obtain ⟨a, rfl⟩ : ∃ a : Nat, nn = a := ⟨nn.toNat, by omega⟩
  rw [Int.toNat_natCast]
  have ha : a < hs.length := by omega
  have := reach_run hs n hn' a (hs.getD a 0) h (by rw [List.getD_eq_getElem?_getD, List.getElem?_eq_getElem ha]; rfl) t cid rid H0 hc hr hne
  exact this
theorem chandler_run (l : List Ins) (vars : Int) (hv : 0 ≤ vars ∧ vars ≤ 12) (hl : l.length ≤ 2000000) (H0 : List AObj) :
    ARun Try.prog 29 [.rs 3 (l.map encI), .i vars] H0 (.ret (.b (verH l vars)) H0) := by
  by_cases h4 : (4000 : Int) < l.length
  · have h4' : ¬ l.length ≤ 4000 := by omega
    (refine ARun.intro Try.func29 rfl Try.call29 Try.ntmps29 Try.results29 ?_; simp only [List.length_cons, List.length_nil, List.length_map, Nat.reduceAdd, Nat.reduceSub, List.replicate_succ, List.replicate_zero, List.cons_append, List.nil_append])
    (have rr1 := dr29_14_X11a; have rr2 := dr29_16_X11a; have ww1 := h4; refine wk ?_; clear rr1 rr2 ww1; (repeat' first | exact True.intro | refine Lf.mk ?_ ?_); all_goals intro hP)
    (refine resX ?_; try exact True.intro)
    simp [verH, h4']
  · have h4' : l.length ≤ 4000 := by omega
    have w1 : IntKind.i64.wrap ((l.length : Int) + 1) = ((l.length + 1 : Nat) : Int) := by rw [wrap_of (by omega) (by omega)]; omega
    have hk1 : ((l.length + 1 : Nat) : Int) ≤ 281474976710656 := by omega
    have hk2 : 8 * ((l.length + 1 : Nat) : Int) ≤ 281474976710656 := by omega
    have heff := fun H0 => effects_run H0
    (refine ARun.intro Try.func29 rfl Try.call29 Try.ntmps29 Try.results29 ?_; simp only [List.length_cons, List.length_nil, List.length_map, Nat.reduceAdd, Nat.reduceSub, List.replicate_succ, List.replicate_zero, List.cons_append, List.nil_append])
    (have ww1 := h4; refine wk ?_; clear ww1; (repeat' first | exact True.intro | refine Lf.mk ?_ ?_); all_goals intro hP)
    refine awp_drawnO_c (id := 3) [4, 5, 6, 7, 8] [([4, 5, 6, 7, 8], [0, 1, 2, 3, 4, 5, 6, 7, 8], [.win [0, 1, 2, 3], .win [0], .win [0], .win [0], .eff 0, .eff 1, .eff 2, .eff 3, .eff 4]), ([4, 6, 5, 7, 8], [0, 1, 2, 3, 4, 6, 5, 7, 8], [.win [0, 1, 2, 3], .win [0], .win [0], .win [0], .eff 0, .eff 2, .eff 1, .eff 3, .eff 4]), ([5, 4, 6, 7, 8], [0, 1, 2, 3, 5, 4, 6, 7, 8], [.win [0, 1, 2, 3], .win [0, 1], .win [0, 1], .win [0, 1], .eff 1, .eff 0, .eff 2, .eff 3, .eff 4]), ([5, 6, 4, 7, 8], [0, 1, 2, 3, 5, 6, 4, 7, 8], [.win [0, 1, 2, 3], .win [0, 1, 2], .win [0, 1, 2], .win [0, 1, 2], .eff 2, .eff 0, .eff 1, .eff 3, .eff 4]), ([5, 6, 7, 4, 8], [0, 1, 2, 3, 5, 6, 7, 4, 8], [.win [0, 1, 2], .win [0, 1, 2, 3], .win [0, 1, 2, 3], .win [0, 1, 2, 3], .eff 3, .eff 0, .eff 1, .eff 2, .eff 4]), ([6, 4, 5, 7, 8], [0, 1, 2, 3, 6, 4, 5, 7, 8], [.win [0, 1, 2, 3], .win [0, 1], .win [0, 1], .win [0, 1], .eff 1, .eff 2, .eff 0, .eff 3, .eff 4]), ([6, 5, 4, 7, 8], [0, 1, 2, 3, 6, 5, 4, 7, 8], [.win [0, 1, 2, 3], .win [0, 1, 2], .win [0, 1, 2], .win [0, 1, 2], .eff 2, .eff 1, .eff 0, .eff 3, .eff 4]), ([6, 5, 7, 4, 8], [0, 1, 2, 3, 6, 5, 7, 4, 8], [.win [0, 1, 2], .win [0, 1, 2, 3], .win [0, 1, 2, 3], .win [0, 1, 2, 3], .eff 3, .eff 1, .eff 0, .eff 2, .eff 4])] 5 rfl (by as_aux_lemma => kernel_rfl) ((.rs 3 (l.map encI) :: .i vars :: .any :: .any :: .any :: .p (H0.length + 1) 0 :: .p (H0.length + 2) 0 :: .any :: .any :: .any :: .any :: .any :: .any :: .any :: .any :: .any :: .any :: .any :: .any :: .any :: .any :: .any :: .any :: .any :: .any :: .any :: .any :: .any :: .any :: .any :: .any :: .any :: .any :: .any :: .any :: .any :: .any :: .any :: .any :: .any :: .any :: .any :: .any :: .any :: .any :: .any :: .any :: .any :: .any :: .any :: .any :: .any :: .any :: .any :: .any :: .any :: .any :: .any :: .any :: .any :: .any :: .any :: .any :: .any :: .any :: .any :: .any :: .any :: .any :: .any :: .any :: .any :: .any :: .any :: .any :: .any :: .any :: .any :: .any :: .any :: .any :: .any :: .any :: .any :: .any :: .any :: .any :: .any :: .any :: .any :: .any :: .any :: .any :: .any :: .any :: .any :: .any :: .any :: .any :: .any :: .any :: .any :: .any :: .any :: .any :: .any :: .any :: .any :: .any :: .any :: .any :: .any :: .any :: .any :: []))
      (H0 ++ [rW (List.replicate (l.length + 1) 0), .cells 86 effC, .cells 88 [.os H0.length 0 (l.length + 1) (l.length + 1)]]) (fun tm H wk h => by simp only [AEx.thn] at h ⊢; exact awp_wk wk h) ?_ (fun Kp W hW => ?_)
    · simp only [AEx.thn]
      (have ww1 := h4; refine wkO ?_; clear ww1; (repeat' first | exact True.intro | refine Lf.mk ?_ ?_); all_goals intro hP)
      refine awp_loop_ind (σ := Nat) (fun k => l.length + 1 - k) (fun k => k ≤ l.length + 1)
        (fun k => (.rs 3 (l.map encI) :: .i vars :: .any :: .any :: .any :: .p (H0.length + 1) 0 :: .p (H0.length + 2) 0 :: .any :: .any :: .any :: .any :: .any :: .any :: .any :: .any :: .any :: .any :: .any :: .any :: .any :: .any :: .i (l.length + 1 : Nat) :: .i k :: .any :: .any :: .any :: .any :: .any :: .any :: .any :: .any :: .any :: .any :: .any :: .any :: .any :: .any :: .any :: .any :: .any :: .any :: .any :: .any :: .any :: .any :: .any :: .any :: .any :: .any :: .any :: .any :: .any :: .any :: .any :: .any :: .any :: .any :: .any :: .any :: .any :: .any :: .any :: .any :: .any :: .any :: .any :: .any :: .any :: .any :: .any :: .any :: .any :: .any :: .any :: .any :: .any :: .any :: .any :: .any :: .any :: .any :: .any :: .any :: .any :: .any :: .any :: .any :: .any :: .any :: .any :: .any :: .any :: .any :: .any :: .any :: .any :: .any :: .any :: .any :: .any :: .any :: .any :: .any :: .any :: .any :: .any :: .any :: .any :: .any :: .any :: .any :: .any :: .any :: .any :: []))
        (fun k => H0 ++ [rW ((List.replicate (l.length + 1) (-1)).take k ++ (List.replicate (l.length + 1) 0).drop k), .cells 86 effC, .cells 88 [.os H0.length 0 (l.length + 1) (l.length + 1)]]) 0 (Nat.zero_le _) ?_ ?_
      · refine Wk.fgtE ?_ (by (refine fgX ?_; try exact True.intro))
        simp [rW, List.replicate_succ]
      · rintro k k1
        by_cases hk : k = l.length + 1
        · subst hk
          have etake : (List.replicate (l.length + 1) (-1 : Int)).take (l.length + 1) ++ (List.replicate (l.length + 1) (0 : Int)).drop (l.length + 1) = (-1) :: List.replicate l.length (-1) := by simp [List.replicate_succ]
          rw [etake]
          (have ww1 := etake; refine wkO ?_; clear ww1; (repeat' first | exact True.intro | refine Lf.mk ?_ ?_); all_goals intro hP)
          refine awp_loop_ind (σ := Nat × List Int) (fun s => l.length - s.1)
            (fun s => s.1 ≤ l.length ∧ s.2.length = l.length + 1 ∧ HsOk s.2 ∧ hLoop l.length vars l 0 (0 :: List.replicate l.length (-1)) = hLoop l.length vars (l.drop s.1) s.1 s.2)
            (fun s => (.rs 3 (l.map encI) :: .i vars :: .any :: .any :: .any :: .p (H0.length + 1) 0 :: .p (H0.length + 2) 0 :: .any :: (.fn (.func 49) [] [.p (H0.length + 2) 0]) :: .any :: .any :: .any :: .any :: .any :: .any :: .any :: .any :: .any :: .any :: .any :: .any :: .any :: .any :: .any :: .any :: .any :: .any :: .any :: .any :: .any :: .any :: .any :: .rs 3 (l.map encI) :: .i l.length :: .i s.1 :: .any :: .any :: .any :: .any :: .any :: .any :: .any :: .any :: .any :: .any :: .any :: .any :: .any :: .any :: .any :: .any :: .any :: .any :: .any :: .any :: .any :: .any :: .any :: .any :: .any :: .any :: .any :: .any :: .any :: .any :: .any :: .any :: .any :: .any :: .any :: .any :: .any :: .any :: .any :: .any :: .any :: .any :: .any :: .any :: .any :: .any :: .any :: .any :: .any :: .any :: .any :: .any :: .any :: .any :: .any :: .any :: .any :: .any :: .any :: .any :: .any :: .any :: .any :: .any :: .any :: .any :: .any :: .any :: .any :: .any :: .any :: .any :: .any :: .any :: .any :: .any :: .any :: .any :: .any :: []))
            (fun s => H0 ++ [rW s.2, .cells 86 effC, .cells 88 [.os H0.length 0 (l.length + 1) (l.length + 1)]]) (0, 0 :: List.replicate l.length (-1)) ⟨Nat.zero_le _, by simp, HsOk.start _, by simp⟩ ?_ ?_
          · refine Wk.fgtE ?_ (by (refine fgX ?_; try exact True.intro))
            simp [rW, List.take_of_length_le, List.replicate_succ]
          · rintro ⟨i, hs⟩ ⟨h1, h2, h3, h5⟩
            simp only at h1 h2 h3 h5 ⊢
            obtain ⟨y, hy⟩ := get_some (hs := hs) (i := i) (by omega)
            have yb := h3.get hy
            have hy' : (hs.map fun v => [AV.i v])[i]? = some [AV.i y] := by rw [List.getElem?_map, hy]; rfl
            have hil : (i : Int) < (l.length + 1 : Nat) := by omega
            cases hr : l.drop i with
            | nil =>
              have hlt := drop_nil hr
              obtain rfl : i = l.length := by have := List.drop_eq_nil_iff.1 hr; omega
              rw [hr, hLoop_nil hy] at h5
              have hverd : verH l vars = decide (y = 0) := by rw [← h5]; exact verH_eq h4'
              rw [hverd]
              (have rr1 := dr29_14_X11a; have rr2 := dr29_16_X11a; have ww1 := @effC_len; have ww2 := hlt; have ww3 := h2; have ww4 := hil; have ww5 := hy'; have ww6 := @row_set; refine wkO ?_; clear rr1 rr2 ww1 ww2 ww3 ww4 ww5 ww6; (repeat' first | exact True.intro | refine Lf.mk ?_ ?_); all_goals intro hP)
              (refine resX ?_; try exact True.intro)
            | cons x rest =>
              obtain ⟨hx, hlt, hd, hm⟩ := drop_cons hr
              rw [hr, hLoop_cons] at h5
              obtain ⟨op, nn, rel⟩ := x
              have hx' : (l.map encI)[i]? = some (cI ⟨op, nn, rel⟩) := by rw [List.getElem?_map, hx]; rfl
              have hverd := verH_eq (vars := vars) h4'
              rw [h5] at hverd
              rw [hverd]
              have hfit := fun H0 => cfits_run op nn rel i l.length vars (by omega) hv H0
              have hw1 : IntKind.i64.wrap ((i : Int) + 1) = ((i + 1 : Nat) : Int) := by rw [wrap_of (by omega) (by omega)]; omega
              cases hok : insOk ⟨op, nn, rel⟩ i l.length vars with
              | false =>
                rw [hStep_bad hy (.inr (.inl hok))]
                simp only [hok] at hfit
                (have rr1 := dr29_14_X11a; have rr2 := dr29_16_X11a; have ww1 := @effC_len; have ww2 := hlt; have ww3 := h2; have ww4 := hil; have ww5 := hx'; have ww6 := hy'; have ww7 := @row_set; have cc1 := fun z1 => hfit z1; refine wkO ?_; clear rr1 rr2 ww1 ww2 ww3 ww4 ww5 ww6 ww7 cc1; (repeat' first | exact True.intro | refine Lf.mk ?_ ?_); all_goals intro hP)
                all_goals (refine resX ?_; try exact True.intro)
              | true =>
                simp only [hok] at hfit
                have hop := insOk_op hok
                simp only at hop
                have t1 := takes_nn op
                have t2 : takes op ≤ 2 := by unfold takes; repeat' split <;> omega
                have p1 := puts_nn op
                have p2 : puts op ≤ 1 := by unfold puts; split <;> omega
                obtain ⟨he1, he2⟩ := effC_get hop
                have hopl : op < 14 := by omega
                have hop0 : 0 ≤ op := by omega
                have wy1 : IntKind.i64.wrap (y - takes op) = y - takes op := wrap_of (by omega) (by omega)
                have wy2 : IntKind.i64.wrap (y - takes op + puts op) = y - takes op + puts op := wrap_of (by omega) (by omega)
                have hj := insOk_jump hok
                simp only at hj
                have hi1 : ((i + 1 : Nat) : Int) < (l.length + 1 : Nat) := by omega
                have hi2 : i + 1 < hs.length := by omega
                have h2' : ∀ a d, (hs.set a d).length = l.length + 1 := by intro a d; simp [h2]
                have hstep := hStep_ok (len := l.length) (vars := vars) (x := ⟨op, nn, rel⟩) hy hok (by omega) hi2
                simp only at hstep
                repeat' (first | refine awp_seq ?_ | refine awp_block ?_ | refine awp_scope ?_ | ((first | refine awp_region_k fun Kn Kp hn hp => ?_ | show AWP _ _ (Code.region 14 _ true) _ _ _; refine awp_drawn_k (id := 14) [11] [] [.win [0], .win [0], .win [0], .win [0], .win [0], .win [0], .win [0], .win [0], .win [0], .win [0], .win [0], .eff 0, .win [1], .win [1], .win [1], .win [1], .win [1], .win [1], .win [1], .win [1], .win [1], .win [1], .win [1], .win [1], .win [1], .win [1]] 1 rfl (by as_aux_lemma => kernel_rfl) fun Kn Kp hn hp => ?_ | show AWP _ _ (Code.region 16 _ true) _ _ _; refine awp_drawn_k (id := 16) [] [] [.win [0], .win [0], .win [0], .win [0], .win [0], .win [0], .win [0], .win [0], .win [0], .win [0], .win [0], .win [0], .win [0], .win [0], .win [0], .win [0], .win [0]] 0 rfl (by as_aux_lemma => kernel_rfl) fun Kn Kp hn hp => ?_ | refine oge_intro (by assumption) ?_ | (show AWE _ _ _ _ _ _ _ _ _; first | refine awe_intro (hfit _) ?_ | refine awe_intro (reach_runN _ (l.length + 1) h2 nn (by omega) _ 88 (H0.length + 2) H0.length (H0 ++ _) (by simp only [getOk, List.getElem?_cons_succ, List.getElem?_cons_zero]) (getO0 _ _ _) (by omega)) ?_ | refine awe_intro (reach_runN _ (l.length + 1) h2 (i + 1 : Nat) (by omega) _ 88 (H0.length + 2) H0.length (H0 ++ _) (by simp only [getOk, List.getElem?_cons_succ, List.getElem?_cons_zero]) (getO0 _ _ _) (by omega)) ?_ | refine awe_intro (reach_runN _ (l.length + 1) (h2' _ _) (i + 1 : Nat) (by omega) _ 88 (H0.length + 2) H0.length (H0 ++ _) (by simp only [getOk, List.getElem?_cons_succ, List.getElem?_cons_zero]) (getO0 _ _ _) (by omega)) ?_) | (show AWSF _ _ _ _ _ _ _ _ _ _ _; first | refine awsf_intro (hfit _) (fun hrun => ?_) | refine awsf_intro (reach_runN _ (l.length + 1) h2 nn (by omega) _ 88 (H0.length + 2) H0.length (H0 ++ _) (by simp only [getOk, List.getElem?_cons_succ, List.getElem?_cons_zero]) (getO0 _ _ _) (by omega)) (fun hrun => ?_) | refine awsf_intro (reach_runN _ (l.length + 1) h2 (i + 1 : Nat) (by omega) _ 88 (H0.length + 2) H0.length (H0 ++ _) (by simp only [getOk, List.getElem?_cons_succ, List.getElem?_cons_zero]) (getO0 _ _ _) (by omega)) (fun hrun => ?_) | refine awsf_intro (reach_runN _ (l.length + 1) (h2' _ _) (i + 1 : Nat) (by omega) _ 88 (H0.length + 2) H0.length (H0 ++ _) (by simp only [getOk, List.getElem?_cons_succ, List.getElem?_cons_zero]) (getO0 _ _ _) (by omega)) (fun hrun => ?_)) | (show OGE _ _ _ _ _ _ _; first | refine oge_intro (hfit _) ?_ | refine oge_intro (reach_runN _ (l.length + 1) h2 nn (by omega) _ 88 (H0.length + 2) H0.length (H0 ++ _) (by simp only [getOk, List.getElem?_cons_succ, List.getElem?_cons_zero]) (getO0 _ _ _) (by omega)) ?_ | refine oge_intro (reach_runN _ (l.length + 1) h2 (i + 1 : Nat) (by omega) _ 88 (H0.length + 2) H0.length (H0 ++ _) (by simp only [getOk, List.getElem?_cons_succ, List.getElem?_cons_zero]) (getO0 _ _ _) (by omega)) ?_ | refine oge_intro (reach_runN _ (l.length + 1) (h2' _ _) (i + 1 : Nat) (by omega) _ 88 (H0.length + 2) H0.length (H0 ++ _) (by simp only [getOk, List.getElem?_cons_succ, List.getElem?_cons_zero]) (getO0 _ _ _) (by omega)) ?_) | (show AWSE _ _ _ _ _ _ _ _ _ _ _; first | refine awse_intro (hfit _) (fun hrun => ?_) | refine awse_intro (reach_runN _ (l.length + 1) h2 nn (by omega) _ 88 (H0.length + 2) H0.length (H0 ++ _) (by simp only [getOk, List.getElem?_cons_succ, List.getElem?_cons_zero]) (getO0 _ _ _) (by omega)) (fun hrun => ?_) | refine awse_intro (reach_runN _ (l.length + 1) h2 (i + 1 : Nat) (by omega) _ 88 (H0.length + 2) H0.length (H0 ++ _) (by simp only [getOk, List.getElem?_cons_succ, List.getElem?_cons_zero]) (getO0 _ _ _) (by omega)) (fun hrun => ?_) | refine awse_intro (reach_runN _ (l.length + 1) (h2' _ _) (i + 1 : Nat) (by omega) _ 88 (H0.length + 2) H0.length (H0 ++ _) (by simp only [getOk, List.getElem?_cons_succ, List.getElem?_cons_zero]) (getO0 _ _ _) (by omega)) (fun hrun => ?_)) | (show PGE _ _ _ _ _; first | refine pge_intro (hfit _) (fun tm' => ?_) | refine pge_intro (reach_runN _ (l.length + 1) h2 nn (by omega) _ 88 (H0.length + 2) H0.length (H0 ++ _) (by simp only [getOk, List.getElem?_cons_succ, List.getElem?_cons_zero]) (getO0 _ _ _) (by omega)) (fun tm' => ?_) | refine pge_intro (reach_runN _ (l.length + 1) h2 (i + 1 : Nat) (by omega) _ 88 (H0.length + 2) H0.length (H0 ++ _) (by simp only [getOk, List.getElem?_cons_succ, List.getElem?_cons_zero]) (getO0 _ _ _) (by omega)) (fun tm' => ?_) | refine pge_intro (reach_runN _ (l.length + 1) (h2' _ _) (i + 1 : Nat) (by omega) _ 88 (H0.length + 2) H0.length (H0 ++ _) (by simp only [getOk, List.getElem?_cons_succ, List.getElem?_cons_zero]) (getO0 _ _ _) (by omega)) (fun tm' => ?_))) <;> (simp only [go_sem, Nat.reduceAdd, Nat.reduceSub, Nat.reduceMul, Nat.reduceLeDiff, Nat.reduceLT, Nat.reduceEqDiff, Int.reduceToNat, Int.reduceAdd, Int.reduceMul, Int.reduceSub, Int.reduceLT, Int.reduceLE, Int.reduceEq, Int.reduceNeg, Int.reduceBEq, Int.reduceBNe, ↓reduceIte, reduceCtorEq, effC_len, hlt, List.length_map, h2, hil, hx', hy', Option.map_some, row_set, Int.toNat_natCast, hop0, hopl, he1, he2, wy1, wy2, hw1, List.length_set] <;> try simp (disch := omega) only [wrap_of])) | (refine hn _ _ ?_; clear hn hp Kn Kp) | (refine hp _ _ _ ?_; clear hn hp Kn Kp) | (simp (disch := omega) only [getSkip16, setSkip16, getAt1, setAt1, getAt2, setAt2, getAt3, setAt3, getAt4, setAt4, getAt5, setAt5, getAt6, setAt6, getAt7, setAt7, getAt8, setAt8, getAt9, setAt9, getAt10, setAt10, getAt11, setAt11, getAt12, setAt12, getAt13, setAt13, getAt14, setAt14, getAt15, setAt15, go_sem, Nat.reduceAdd, Nat.reduceSub, Nat.reduceMul, Nat.reduceLeDiff, Nat.reduceLT, Nat.reduceEqDiff, Int.reduceToNat, Int.reduceAdd, Int.reduceMul, Int.reduceSub, Int.reduceLT, Int.reduceLE, Int.reduceEq, Int.reduceNeg, Int.reduceBEq, Int.reduceBNe, ↓reduceIte, reduceCtorEq, effC_len, hlt, List.length_map, h2, hil, hx', hy', Option.map_some, row_set, Int.toNat_natCast, hop0, hopl, he1, he2, wy1, wy2, hw1, List.length_set, if_pos, if_neg, decide_pos', decide_neg', beq_pos', beq_neg', bne_pos', bne_neg', getE, wrap_of]) | (refine awp_cond_t rfl (by first | with_reducible rfl | (simp only [Bool.and_eq_true, Bool.or_eq_true, Bool.and_eq_false_iff, Bool.or_eq_false_iff, decide_eq_true_eq, decide_eq_false_iff_not, beq_iff_eq, bne_iff_ne, bne_eq_false_iff_eq, beq_eq_false_iff_ne, ne_eq, Bool.not_eq_true', Bool.not_eq_false', not_true_eq_false, not_false_eq_true]; omega)) ?_) | (refine awp_cond_f rfl (by first | with_reducible rfl | (simp only [Bool.and_eq_true, Bool.or_eq_true, Bool.and_eq_false_iff, Bool.or_eq_false_iff, decide_eq_true_eq, decide_eq_false_iff_not, beq_iff_eq, bne_iff_ne, bne_eq_false_iff_eq, beq_eq_false_iff_ne, ne_eq, Bool.not_eq_true', Bool.not_eq_false', not_true_eq_false, not_false_eq_true]; omega)) ?_) | (refine awp_cond rfl (fun hb => ?_) (fun hb => ?_) <;> (try simp only [decide_eq_true_eq, decide_eq_false_iff_not, Bool.not_eq_true', Bool.not_eq_false', Bool.true_eq_false, Bool.false_eq_true, beq_iff_eq, bne_iff_ne, Bool.or_eq_true, Bool.and_eq_true, Bool.or_eq_false_iff, Bool.and_eq_false_iff, bne_eq_false_iff_eq, beq_eq_false_iff_ne, gt_iff_lt, ge_iff_le, Int.reduceEq, Int.reduceNe, Int.reduceLT, Int.reduceLE, ne_eq, not_true_eq_false, not_false_eq_true] at hb)) | ((first | refine awg_split (fun hb => ?_) (fun hb => ?_) | refine awsg_split (fun hb => ?_) (fun hb => ?_)) <;> have hb0 := hb <;> (try simp only [decide_eq_true_eq, decide_eq_false_iff_not, Bool.not_eq_true', Bool.not_eq_false', Bool.true_eq_false, Bool.false_eq_true, beq_iff_eq, bne_iff_ne, Bool.or_eq_true, Bool.and_eq_true, Bool.or_eq_false_iff, Bool.and_eq_false_iff, bne_eq_false_iff_eq, beq_eq_false_iff_ne, gt_iff_lt, ge_iff_le, Int.reduceEq, Int.reduceNe, Int.reduceLT, Int.reduceLE, ne_eq, not_true_eq_false, not_false_eq_true] at hb0) <;> (try simp only [beq_true, beq_false, Bool.not_eq_true', Bool.not_eq_false'] at hb) <;> (simp only [go_sem, Nat.reduceAdd, Nat.reduceSub, Nat.reduceMul, Nat.reduceLeDiff, Nat.reduceLT, Nat.reduceEqDiff, Int.reduceToNat, Int.reduceAdd, Int.reduceMul, Int.reduceSub, Int.reduceLT, Int.reduceLE, Int.reduceEq, Int.reduceNeg, Int.reduceBEq, Int.reduceBNe, ↓reduceIte, reduceCtorEq, effC_len, hlt, List.length_map, h2, hil, hx', hy', Option.map_some, row_set, Int.toNat_natCast, hop0, hopl, he1, he2, wy1, wy2, hw1, List.length_set, hb, hb0] <;> try simp (disch := omega) only [wrap_of])) | (refine And.intro ?_ ?_) | refine awp_skip ?_ | refine awp_ret ?_ | refine awp_exit ?_ | refine awp_label ?_ | refine awloop_step ?_ | fail)
                all_goals first
                  | ((refine resX ?_; try exact True.intro); rw [hstep]; simp (disch := omega) only [if_pos, if_neg])
                  | (refine ⟨(i + 1, (hs.set nn.toNat (y - takes op + puts op)).set (i + 1) (y - takes op + puts op)), by simp only; omega, ⟨by simp only; omega, by simp only [List.length_set]; exact h2, (h3.set _ (by omega)).set _ (by omega), by simp only; rw [h5, hstep, ← hd]; simp (disch := omega) only [if_pos, if_neg]⟩, ?_⟩; refine Wk.keepE 3 1 rfl (by simp) (by intro o ho; simp only [List.mem_cons, List.not_mem_nil, or_false] at ho; rcases ho with rfl | rfl | rfl <;> (first | exact row_under | exact effC_under | exact hdr_under)) ?_; simp only [List.map_cons, List.map_nil, AV.low, Fgt, Nat.lt_add_one, if_true, true_or, or_true, and_true, true_and, Nat.add_lt_add_iff_left, Nat.reduceLT])
                  | (refine ⟨(i + 1, hs.set nn.toNat (y - takes op + puts op)), by simp only; omega, ⟨by simp only; omega, by simp only [List.length_set]; exact h2, h3.set _ (by omega), by simp only; rw [h5, hstep, ← hd]; simp (disch := omega) only [if_pos, if_neg]⟩, ?_⟩; refine Wk.keepE 3 1 rfl (by simp) (by intro o ho; simp only [List.mem_cons, List.not_mem_nil, or_false] at ho; rcases ho with rfl | rfl | rfl <;> (first | exact row_under | exact effC_under | exact hdr_under)) ?_; simp only [List.map_cons, List.map_nil, AV.low, Fgt, Nat.lt_add_one, if_true, true_or, or_true, and_true, true_and, Nat.add_lt_add_iff_left, Nat.reduceLT])
                  | (refine ⟨(i + 1, hs.set (i + 1) (y - takes op + puts op)), by simp only; omega, ⟨by simp only; omega, by simp only [List.length_set]; exact h2, h3.set _ (by omega), by simp only; rw [h5, hstep, ← hd]; simp (disch := omega) only [if_pos, if_neg]⟩, ?_⟩; refine Wk.keepE 3 1 rfl (by simp) (by intro o ho; simp only [List.mem_cons, List.not_mem_nil, or_false] at ho; rcases ho with rfl | rfl | rfl <;> (first | exact row_under | exact effC_under | exact hdr_under)) ?_; simp only [List.map_cons, List.map_nil, AV.low, Fgt, Nat.lt_add_one, if_true, true_or, or_true, and_true, true_and, Nat.add_lt_add_iff_left, Nat.reduceLT])
        · have hki : (k : Int) < (l.length + 1 : Nat) := by omega
          have hw : IntKind.i64.wrap ((k : Int) + 1) = ((k + 1 : Nat) : Int) := by rw [wrap_of (by omega) (by omega)]; omega
          have hlen : ((List.replicate (l.length + 1) (-1 : Int)).take k ++ (List.replicate (l.length + 1) (0 : Int)).drop k).length = l.length + 1 := by simp; omega
          have hfill := fill_step (A := List.replicate (l.length + 1) (-1 : Int)) (B := List.replicate (l.length + 1) (0 : Int)) (by simp) (k := k) (x := -1) (by rw [List.getElem?_replicate, if_pos (by omega)])
          generalize hg : (List.replicate (l.length + 1) (-1 : Int)).take k ++ (List.replicate (l.length + 1) (0 : Int)).drop k = row at *
          obtain ⟨z, hz⟩ := get_some (hs := row) (i := k) (by omega)
          have hz' : (row.map fun v => [AV.i v])[k]? = some [AV.i z] := by rw [List.getElem?_map, hz]; rfl
          (have ww1 := hw; have ww2 := hlen; have ww3 := hz'; have ww4 := @row_set; refine wkO ?_; clear ww1 ww2 ww3 ww4; (repeat' first | exact True.intro | refine Lf.mk ?_ ?_); all_goals intro hP)
          refine ⟨k + 1, by omega, by omega, ?_⟩
          simp only [List.replicate_succ] at hfill
          refine Wk.keepE 3 1 (by rw [← hfill]; simp only [rW, List.map_set]; rfl) (by simp) (by intro o ho; simp only [List.mem_cons, List.not_mem_nil, or_false] at ho; rcases ho with rfl | rfl | rfl <;> (first | exact row_under | exact effC_under | exact hdr_under)) ?_
          simp only [List.map_cons, List.map_nil, AV.low, Fgt, Nat.lt_add_one, if_true, true_or, or_true, and_true, true_and, Nat.add_lt_add_iff_left, Nat.reduceLT]
    · simp only [List.forall_mem_cons, List.not_mem_nil, false_implies, implies_true, and_true, go_sem, Nat.reduceAdd, Nat.reduceSub, Nat.reduceMul, Nat.reduceLeDiff, Nat.reduceLT, Nat.reduceEqDiff, Int.reduceToNat, Int.reduceAdd, Int.reduceMul, Int.reduceSub, Int.reduceLT, Int.reduceLE, Int.reduceEq, Int.reduceNeg, Int.reduceBEq, Int.reduceBNe, ↓reduceIte, reduceCtorEq, pick, List.length_map, w1, hk1, hk2, Int.le_refl, List.length_replicate]
      (have rr1 := dr29_14_X11a; have rr2 := dr29_16_X11a; have ww1 := w1; have ww2 := hk1; have ww3 := hk2; have ww4 := and_self; have cc1 := fun z1 => heff z1; refine wkS ?_; clear rr1 rr2 ww1 ww2 ww3 ww4 cc1; (repeat' first | exact True.intro | refine Lf.mk ?_ ?_); all_goals intro hP)
      all_goals (first | ((refine hW _ _ (Wk.perm0 [0, 1, 2] (by decide) ?_ ?_)) <;> (simp only [PermL, FgtR, AObj.ren, AV.ren, AV.under, AObj.under, AL.perm_0, AL.perm_k, List.map_cons, List.map_nil, List.map_map, List.map_replicate, List.replicate_succ, List.getD_cons_zero, List.getD_cons_succ, List.getElem?_cons_zero, List.getElem?_cons_succ, List.length_cons, List.length_nil, Nat.add_zero, Nat.zero_add, Nat.reduceAdd, Nat.add_lt_add_iff_left, Nat.reduceLT, Nat.lt_add_right_iff_pos, List.forall_mem_cons, List.mem_cons, List.not_mem_nil, forall_eq_or_imp, forall_eq, false_implies, implies_true, reduceCtorEq, false_or, true_or, or_true, and_true, true_and, and_self, List.forall_mem_map, List.mem_map, forall_exists_index, and_imp, forall_apply_eq_imp_iff₂, Function.comp_def, List.mem_replicate, ne_eq, effC, effP]) <;> (first | (intro a _ ha c hc; subst ha; simp only [List.mem_singleton] at hc; subst hc; simp only [AV.under]))) | ((refine hW _ _ (Wk.perm0 [0, 2, 1] (by decide) ?_ ?_)) <;> (simp only [PermL, FgtR, AObj.ren, AV.ren, AV.under, AObj.under, AL.perm_0, AL.perm_k, List.map_cons, List.map_nil, List.map_map, List.map_replicate, List.replicate_succ, List.getD_cons_zero, List.getD_cons_succ, List.getElem?_cons_zero, List.getElem?_cons_succ, List.length_cons, List.length_nil, Nat.add_zero, Nat.zero_add, Nat.reduceAdd, Nat.add_lt_add_iff_left, Nat.reduceLT, Nat.lt_add_right_iff_pos, List.forall_mem_cons, List.mem_cons, List.not_mem_nil, forall_eq_or_imp, forall_eq, false_implies, implies_true, reduceCtorEq, false_or, true_or, or_true, and_true, true_and, and_self, List.forall_mem_map, List.mem_map, forall_exists_index, and_imp, forall_apply_eq_imp_iff₂, Function.comp_def, List.mem_replicate, ne_eq, effC, effP]) <;> (first | (intro a _ ha c hc; subst ha; simp only [List.mem_singleton] at hc; subst hc; simp only [AV.under]))) | ((refine hW _ _ (Wk.perm0 [1, 0, 2] (by decide) ?_ ?_)) <;> (simp only [PermL, FgtR, AObj.ren, AV.ren, AV.under, AObj.under, AL.perm_0, AL.perm_k, List.map_cons, List.map_nil, List.map_map, List.map_replicate, List.replicate_succ, List.getD_cons_zero, List.getD_cons_succ, List.getElem?_cons_zero, List.getElem?_cons_succ, List.length_cons, List.length_nil, Nat.add_zero, Nat.zero_add, Nat.reduceAdd, Nat.add_lt_add_iff_left, Nat.reduceLT, Nat.lt_add_right_iff_pos, List.forall_mem_cons, List.mem_cons, List.not_mem_nil, forall_eq_or_imp, forall_eq, false_implies, implies_true, reduceCtorEq, false_or, true_or, or_true, and_true, true_and, and_self, List.forall_mem_map, List.mem_map, forall_exists_index, and_imp, forall_apply_eq_imp_iff₂, Function.comp_def, List.mem_replicate, ne_eq, effC, effP]) <;> (first | (intro a _ ha c hc; subst ha; simp only [List.mem_singleton] at hc; subst hc; simp only [AV.under]))) | ((refine hW _ _ (Wk.perm0 [1, 2, 0] (by decide) ?_ ?_)) <;> (simp only [PermL, FgtR, AObj.ren, AV.ren, AV.under, AObj.under, AL.perm_0, AL.perm_k, List.map_cons, List.map_nil, List.map_map, List.map_replicate, List.replicate_succ, List.getD_cons_zero, List.getD_cons_succ, List.getElem?_cons_zero, List.getElem?_cons_succ, List.length_cons, List.length_nil, Nat.add_zero, Nat.zero_add, Nat.reduceAdd, Nat.add_lt_add_iff_left, Nat.reduceLT, Nat.lt_add_right_iff_pos, List.forall_mem_cons, List.mem_cons, List.not_mem_nil, forall_eq_or_imp, forall_eq, false_implies, implies_true, reduceCtorEq, false_or, true_or, or_true, and_true, true_and, and_self, List.forall_mem_map, List.mem_map, forall_exists_index, and_imp, forall_apply_eq_imp_iff₂, Function.comp_def, List.mem_replicate, ne_eq, effC, effP]) <;> (first | (intro a _ ha c hc; subst ha; simp only [List.mem_singleton] at hc; subst hc; simp only [AV.under]))) | ((refine hW _ _ (Wk.perm0 [2, 0, 1] (by decide) ?_ ?_)) <;> (simp only [PermL, FgtR, AObj.ren, AV.ren, AV.under, AObj.under, AL.perm_0, AL.perm_k, List.map_cons, List.map_nil, List.map_map, List.map_replicate, List.replicate_succ, List.getD_cons_zero, List.getD_cons_succ, List.getElem?_cons_zero, List.getElem?_cons_succ, List.length_cons, List.length_nil, Nat.add_zero, Nat.zero_add, Nat.reduceAdd, Nat.add_lt_add_iff_left, Nat.reduceLT, Nat.lt_add_right_iff_pos, List.forall_mem_cons, List.mem_cons, List.not_mem_nil, forall_eq_or_imp, forall_eq, false_implies, implies_true, reduceCtorEq, false_or, true_or, or_true, and_true, true_and, and_self, List.forall_mem_map, List.mem_map, forall_exists_index, and_imp, forall_apply_eq_imp_iff₂, Function.comp_def, List.mem_replicate, ne_eq, effC, effP]) <;> (first | (intro a _ ha c hc; subst ha; simp only [List.mem_singleton] at hc; subst hc; simp only [AV.under]))) | ((refine hW _ _ (Wk.perm0 [2, 1, 0] (by decide) ?_ ?_)) <;> (simp only [PermL, FgtR, AObj.ren, AV.ren, AV.under, AObj.under, AL.perm_0, AL.perm_k, List.map_cons, List.map_nil, List.map_map, List.map_replicate, List.replicate_succ, List.getD_cons_zero, List.getD_cons_succ, List.getElem?_cons_zero, List.getElem?_cons_succ, List.length_cons, List.length_nil, Nat.add_zero, Nat.zero_add, Nat.reduceAdd, Nat.add_lt_add_iff_left, Nat.reduceLT, Nat.lt_add_right_iff_pos, List.forall_mem_cons, List.mem_cons, List.not_mem_nil, forall_eq_or_imp, forall_eq, false_implies, implies_true, reduceCtorEq, false_or, true_or, or_true, and_true, true_and, and_self, List.forall_mem_map, List.mem_map, forall_exists_index, and_imp, forall_apply_eq_imp_iff₂, Function.comp_def, List.mem_replicate, ne_eq, effC, effP]) <;> (first | (intro a _ ha c hc; subst ha; simp only [List.mem_singleton] at hc; subst hc; simp only [AV.under]))))
end Go.Proofs.Ytiifbdkedainnaa.Y

set_option maxHeartbeats 8000000
set_option maxRecDepth 20000
set_option linter.unusedVariables false
set_option linter.unusedSimpArgs false
set_option linter.unusedSectionVars false
namespace Go.Proofs.Ytiifbdkedainnaa.Y
open Go.Proofs.Ytiifbdkedainnaa.AL Go.Proofs Go
attribute [local irreducible] AWP AWL AWG AWR AWE AWX AWO AWSeq AWSG AWSR AWSO AWSE AWSF GoodP OGW OGR OGE OGX PGW PGR PGE Wk AWLoop AWPD AWLD

theorem RTakes_run (op : Int) (hop : 1 ≤ op ∧ op ≤ 13) (H0 : List AObj) : ARun Try.prog 19 [.i op] H0 (.ret (.tup [.i (takes op), .i (puts op)]) H0) := by
  by_cases h1 : op = 1
  · subst h1
    (refine ARun.intro Try.func19 rfl Try.call19 Try.ntmps19 Try.results19 ?_; simp only [List.length_cons, List.length_nil, List.length_map, Nat.reduceAdd, Nat.reduceSub, List.replicate_succ, List.replicate_zero, List.cons_append, List.nil_append])
    (refine wk ?_; (repeat' first | exact True.intro | refine Lf.mk ?_ ?_); all_goals intro hP)
    (refine resX ?_; try exact True.intro)
  by_cases h2 : op = 2
  · subst h2
    (refine ARun.intro Try.func19 rfl Try.call19 Try.ntmps19 Try.results19 ?_; simp only [List.length_cons, List.length_nil, List.length_map, Nat.reduceAdd, Nat.reduceSub, List.replicate_succ, List.replicate_zero, List.cons_append, List.nil_append])
    (refine wk ?_; (repeat' first | exact True.intro | refine Lf.mk ?_ ?_); all_goals intro hP)
    (refine resX ?_; try exact True.intro)
  by_cases h3 : op = 3
  · subst h3
    (refine ARun.intro Try.func19 rfl Try.call19 Try.ntmps19 Try.results19 ?_; simp only [List.length_cons, List.length_nil, List.length_map, Nat.reduceAdd, Nat.reduceSub, List.replicate_succ, List.replicate_zero, List.cons_append, List.nil_append])
    (refine wk ?_; (repeat' first | exact True.intro | refine Lf.mk ?_ ?_); all_goals intro hP)
    (refine resX ?_; try exact True.intro)
  by_cases h11 : op = 11
  · subst h11
    (refine ARun.intro Try.func19 rfl Try.call19 Try.ntmps19 Try.results19 ?_; simp only [List.length_cons, List.length_nil, List.length_map, Nat.reduceAdd, Nat.reduceSub, List.replicate_succ, List.replicate_zero, List.cons_append, List.nil_append])
    (refine wk ?_; (repeat' first | exact True.intro | refine Lf.mk ?_ ?_); all_goals intro hP)
    (refine resX ?_; try exact True.intro)
  by_cases h12 : op = 12
  · subst h12
    (refine ARun.intro Try.func19 rfl Try.call19 Try.ntmps19 Try.results19 ?_; simp only [List.length_cons, List.length_nil, List.length_map, Nat.reduceAdd, Nat.reduceSub, List.replicate_succ, List.replicate_zero, List.cons_append, List.nil_append])
    (refine wk ?_; (repeat' first | exact True.intro | refine Lf.mk ?_ ?_); all_goals intro hP)
    (refine resX ?_; try exact True.intro)
  by_cases h13 : op = 13
  · subst h13
    (refine ARun.intro Try.func19 rfl Try.call19 Try.ntmps19 Try.results19 ?_; simp only [List.length_cons, List.length_nil, List.length_map, Nat.reduceAdd, Nat.reduceSub, List.replicate_succ, List.replicate_zero, List.cons_append, List.nil_append])
    (refine wk ?_; (repeat' first | exact True.intro | refine Lf.mk ?_ ?_); all_goals intro hP)
    (refine resX ?_; try exact True.intro)
  have e1 : (op == 1) = false := by simpa using h1
  have e2 : (op == 2) = false := by simpa using h2
  have e3 : (op == 3) = false := by simpa using h3
  have e11 : (op == 11) = false := by simpa using h11
  have e12 : (op == 12) = false := by simpa using h12
  have e13 : (op == 13) = false := by simpa using h13
  (refine ARun.intro Try.func19 rfl Try.call19 Try.ntmps19 Try.results19 ?_; simp only [List.length_cons, List.length_nil, List.length_map, Nat.reduceAdd, Nat.reduceSub, List.replicate_succ, List.replicate_zero, List.cons_append, List.nil_append])
  (have ww1 := e1; have ww2 := e2; have ww3 := e3; have ww4 := e11; have ww5 := e12; have ww6 := e13; refine wk ?_; clear ww1 ww2 ww3 ww4 ww5 ww6; (repeat' first | exact True.intro | refine Lf.mk ?_ ?_); all_goals intro hP)
  (refine resX ?_; try exact True.intro)
  all_goals simp [takes, puts, h1, h2, h3, h11, h12, h13]
end Go.Proofs.Ytiifbdkedainnaa.Y

set_option maxHeartbeats 8000000
set_option maxRecDepth 20000
set_option linter.unusedVariables false
set_option linter.unusedSimpArgs false
set_option linter.unusedSectionVars false
namespace Go.Proofs.Ytiifbdkedainnaa.Y
open Go.Proofs.Ytiifbdkedainnaa.AL Go.Proofs Go
attribute [local irreducible] AWP AWL AWG AWR AWE AWX AWO AWSeq AWSG AWSR AWSO AWSE AWSF GoodP OGW OGR OGE OGX PGW PGR PGE Wk AWLoop AWPD AWLD

theorem Rinstr_run (op nn rel i len vars : Int) (H0 : List AObj) :
    ARun Try.prog 51 [.agg [.i op, .i nn, .i rel], .i i, .i len, .i vars] H0 (.ret (.b (insOk ⟨op, nn, rel⟩ i len vars)) H0) := by
  by_cases h1 : op = 1
  · subst h1
    by_cases hr : rel = 0
    · subst hr
      by_cases hl : -1000000000000 ≤ nn
      · (refine ARun.intro Try.func51 rfl Try.call51 Try.ntmps51 Try.results51 ?_; simp only [List.length_cons, List.length_nil, List.length_map, Nat.reduceAdd, Nat.reduceSub, List.replicate_succ, List.replicate_zero, List.cons_append, List.nil_append])
        (have ww1 := hl; refine wk ?_; clear ww1; (repeat' first | exact True.intro | refine Lf.mk ?_ ?_); all_goals intro hP)
        (refine resX ?_; try exact True.intro)
        all_goals simp [insOk, hl]
        all_goals (try first | rfl | omega | (rw [Bool.eq_iff_iff]; simp; omega))
      · (refine ARun.intro Try.func51 rfl Try.call51 Try.ntmps51 Try.results51 ?_; simp only [List.length_cons, List.length_nil, List.length_map, Nat.reduceAdd, Nat.reduceSub, List.replicate_succ, List.replicate_zero, List.cons_append, List.nil_append])
        (have ww1 := hl; refine wk ?_; clear ww1; (repeat' first | exact True.intro | refine Lf.mk ?_ ?_); all_goals intro hP)
        (refine resX ?_; try exact True.intro)
        all_goals simp [insOk, hl]
        all_goals (try first | rfl | omega | (rw [Bool.eq_iff_iff]; simp; omega))
    · have hr' : (rel != 0) = true := by simpa using hr
      (refine ARun.intro Try.func51 rfl Try.call51 Try.ntmps51 Try.results51 ?_; simp only [List.length_cons, List.length_nil, List.length_map, Nat.reduceAdd, Nat.reduceSub, List.replicate_succ, List.replicate_zero, List.cons_append, List.nil_append])
      (have ww1 := hr'; refine wk ?_; clear ww1; (repeat' first | exact True.intro | refine Lf.mk ?_ ?_); all_goals intro hP)
      (refine resX ?_; try exact True.intro)
      all_goals simp [insOk, hr]
      all_goals (try first | rfl | omega | (rw [Bool.eq_iff_iff]; simp; omega))
  by_cases h2 : op = 2
  · subst h2
    by_cases hr : rel = 0
    · subst hr
      by_cases hl : 0 ≤ nn
      · (refine ARun.intro Try.func51 rfl Try.call51 Try.ntmps51 Try.results51 ?_; simp only [List.length_cons, List.length_nil, List.length_map, Nat.reduceAdd, Nat.reduceSub, List.replicate_succ, List.replicate_zero, List.cons_append, List.nil_append])
        (have ww1 := hl; refine wk ?_; clear ww1; (repeat' first | exact True.intro | refine Lf.mk ?_ ?_); all_goals intro hP)
        (refine resX ?_; try exact True.intro)
        all_goals simp [insOk, hl]
        all_goals (try first | rfl | omega | (rw [Bool.eq_iff_iff]; simp; omega))
      · (refine ARun.intro Try.func51 rfl Try.call51 Try.ntmps51 Try.results51 ?_; simp only [List.length_cons, List.length_nil, List.length_map, Nat.reduceAdd, Nat.reduceSub, List.replicate_succ, List.replicate_zero, List.cons_append, List.nil_append])
        (have ww1 := hl; refine wk ?_; clear ww1; (repeat' first | exact True.intro | refine Lf.mk ?_ ?_); all_goals intro hP)
        (refine resX ?_; try exact True.intro)
        all_goals simp [insOk, hl]
        all_goals (try first | rfl | omega | (rw [Bool.eq_iff_iff]; simp; omega))
    · have hr' : (rel != 0) = true := by simpa using hr
      (refine ARun.intro Try.func51 rfl Try.call51 Try.ntmps51 Try.results51 ?_; simp only [List.length_cons, List.length_nil, List.length_map, Nat.reduceAdd, Nat.reduceSub, List.replicate_succ, List.replicate_zero, List.cons_append, List.nil_append])
      (have ww1 := hr'; refine wk ?_; clear ww1; (repeat' first | exact True.intro | refine Lf.mk ?_ ?_); all_goals intro hP)
      (refine resX ?_; try exact True.intro)
      all_goals simp [insOk, hr]
      all_goals (try first | rfl | omega | (rw [Bool.eq_iff_iff]; simp; omega))
  by_cases h11 : op = 11
  · subst h11
    by_cases hr : rel = 0
    · subst hr
      by_cases hl : 0 ≤ nn
      · (refine ARun.intro Try.func51 rfl Try.call51 Try.ntmps51 Try.results51 ?_; simp only [List.length_cons, List.length_nil, List.length_map, Nat.reduceAdd, Nat.reduceSub, List.replicate_succ, List.replicate_zero, List.cons_append, List.nil_append])
        (have ww1 := hl; refine wk ?_; clear ww1; (repeat' first | exact True.intro | refine Lf.mk ?_ ?_); all_goals intro hP)
        (refine resX ?_; try exact True.intro)
        all_goals simp [insOk, hl]
        all_goals (try first | rfl | omega | (rw [Bool.eq_iff_iff]; simp; omega))
      · (refine ARun.intro Try.func51 rfl Try.call51 Try.ntmps51 Try.results51 ?_; simp only [List.length_cons, List.length_nil, List.length_map, Nat.reduceAdd, Nat.reduceSub, List.replicate_succ, List.replicate_zero, List.cons_append, List.nil_append])
        (have ww1 := hl; refine wk ?_; clear ww1; (repeat' first | exact True.intro | refine Lf.mk ?_ ?_); all_goals intro hP)
        (refine resX ?_; try exact True.intro)
        all_goals simp [insOk, hl]
        all_goals (try first | rfl | omega | (rw [Bool.eq_iff_iff]; simp; omega))
    · have hr' : (rel != 0) = true := by simpa using hr
      (refine ARun.intro Try.func51 rfl Try.call51 Try.ntmps51 Try.results51 ?_; simp only [List.length_cons, List.length_nil, List.length_map, Nat.reduceAdd, Nat.reduceSub, List.replicate_succ, List.replicate_zero, List.cons_append, List.nil_append])
      (have ww1 := hr'; refine wk ?_; clear ww1; (repeat' first | exact True.intro | refine Lf.mk ?_ ?_); all_goals intro hP)
      (refine resX ?_; try exact True.intro)
      all_goals simp [insOk, hr]
      all_goals (try first | rfl | omega | (rw [Bool.eq_iff_iff]; simp; omega))
  by_cases h3 : op = 3
  · subst h3
    by_cases hr : rel = 0
    · subst hr
      by_cases hl : 0 ≤ nn
      · (refine ARun.intro Try.func51 rfl Try.call51 Try.ntmps51 Try.results51 ?_; simp only [List.length_cons, List.length_nil, List.length_map, Nat.reduceAdd, Nat.reduceSub, List.replicate_succ, List.replicate_zero, List.cons_append, List.nil_append])
        (have ww1 := hl; refine wk ?_; clear ww1; (repeat' first | exact True.intro | refine Lf.mk ?_ ?_); all_goals intro hP)
        (refine resX ?_; try exact True.intro)
        all_goals simp [insOk, hl]
        all_goals (try first | rfl | omega | (rw [Bool.eq_iff_iff]; simp; omega))
      · (refine ARun.intro Try.func51 rfl Try.call51 Try.ntmps51 Try.results51 ?_; simp only [List.length_cons, List.length_nil, List.length_map, Nat.reduceAdd, Nat.reduceSub, List.replicate_succ, List.replicate_zero, List.cons_append, List.nil_append])
        (have ww1 := hl; refine wk ?_; clear ww1; (repeat' first | exact True.intro | refine Lf.mk ?_ ?_); all_goals intro hP)
        (refine resX ?_; try exact True.intro)
        all_goals simp [insOk, hl]
        all_goals (try first | rfl | omega | (rw [Bool.eq_iff_iff]; simp; omega))
    · have hr' : (rel != 0) = true := by simpa using hr
      (refine ARun.intro Try.func51 rfl Try.call51 Try.ntmps51 Try.results51 ?_; simp only [List.length_cons, List.length_nil, List.length_map, Nat.reduceAdd, Nat.reduceSub, List.replicate_succ, List.replicate_zero, List.cons_append, List.nil_append])
      (have ww1 := hr'; refine wk ?_; clear ww1; (repeat' first | exact True.intro | refine Lf.mk ?_ ?_); all_goals intro hP)
      (refine resX ?_; try exact True.intro)
      all_goals simp [insOk, hr]
      all_goals (try first | rfl | omega | (rw [Bool.eq_iff_iff]; simp; omega))
  by_cases h12 : op = 12
  · subst h12
    by_cases hl : i < nn
    · by_cases hh : nn ≤ len
      · by_cases h1 : 1 ≤ rel
        · have hz : (rel != 0) = true := by simp; omega
          (refine ARun.intro Try.func51 rfl Try.call51 Try.ntmps51 Try.results51 ?_; simp only [List.length_cons, List.length_nil, List.length_map, Nat.reduceAdd, Nat.reduceSub, List.replicate_succ, List.replicate_zero, List.cons_append, List.nil_append])
          (have ww1 := hl; have ww2 := hh; have ww3 := h1; have ww4 := hz; refine wk ?_; clear ww1 ww2 ww3 ww4; (repeat' first | exact True.intro | refine Lf.mk ?_ ?_); all_goals intro hP)
          (refine resX ?_; try exact True.intro)
          all_goals simp [insOk, hl, hh, h1]
          all_goals (try first | rfl | omega | (rw [Bool.eq_iff_iff]; simp; omega))
        · by_cases hz : rel = 0
          · subst hz
            (refine ARun.intro Try.func51 rfl Try.call51 Try.ntmps51 Try.results51 ?_; simp only [List.length_cons, List.length_nil, List.length_map, Nat.reduceAdd, Nat.reduceSub, List.replicate_succ, List.replicate_zero, List.cons_append, List.nil_append])
            (have ww1 := hl; have ww2 := hh; have ww3 := h1; refine wk ?_; clear ww1 ww2 ww3; (repeat' first | exact True.intro | refine Lf.mk ?_ ?_); all_goals intro hP)
            (refine resX ?_; try exact True.intro)
            all_goals simp [insOk, hl, hh, h1]
            all_goals (try first | rfl | omega | (rw [Bool.eq_iff_iff]; simp; omega))
          · have hz' : (rel != 0) = true := by simpa using hz
            (refine ARun.intro Try.func51 rfl Try.call51 Try.ntmps51 Try.results51 ?_; simp only [List.length_cons, List.length_nil, List.length_map, Nat.reduceAdd, Nat.reduceSub, List.replicate_succ, List.replicate_zero, List.cons_append, List.nil_append])
            (have ww1 := hl; have ww2 := hh; have ww3 := h1; have ww4 := hz'; refine wk ?_; clear ww1 ww2 ww3 ww4; (repeat' first | exact True.intro | refine Lf.mk ?_ ?_); all_goals intro hP)
            (refine resX ?_; try exact True.intro)
            all_goals simp [insOk, hl, hh, h1]
            all_goals (try first | rfl | omega | (rw [Bool.eq_iff_iff]; simp; omega))
      · by_cases hz : rel = 0
        · subst hz
          (refine ARun.intro Try.func51 rfl Try.call51 Try.ntmps51 Try.results51 ?_; simp only [List.length_cons, List.length_nil, List.length_map, Nat.reduceAdd, Nat.reduceSub, List.replicate_succ, List.replicate_zero, List.cons_append, List.nil_append])
          (have ww1 := hl; have ww2 := hh; refine wk ?_; clear ww1 ww2; (repeat' first | exact True.intro | refine Lf.mk ?_ ?_); all_goals intro hP)
          (refine resX ?_; try exact True.intro)
          all_goals simp [insOk, hl, hh]
          all_goals (try first | rfl | omega | (rw [Bool.eq_iff_iff]; simp; omega))
        · have hz' : (rel != 0) = true := by simpa using hz
          (refine ARun.intro Try.func51 rfl Try.call51 Try.ntmps51 Try.results51 ?_; simp only [List.length_cons, List.length_nil, List.length_map, Nat.reduceAdd, Nat.reduceSub, List.replicate_succ, List.replicate_zero, List.cons_append, List.nil_append])
          (have ww1 := hl; have ww2 := hh; have ww3 := hz'; refine wk ?_; clear ww1 ww2 ww3; (repeat' first | exact True.intro | refine Lf.mk ?_ ?_); all_goals intro hP)
          (refine resX ?_; try exact True.intro)
          all_goals simp [insOk, hl, hh]
          all_goals (try first | rfl | omega | (rw [Bool.eq_iff_iff]; simp; omega))
    · by_cases hz : rel = 0
      · subst hz
        (refine ARun.intro Try.func51 rfl Try.call51 Try.ntmps51 Try.results51 ?_; simp only [List.length_cons, List.length_nil, List.length_map, Nat.reduceAdd, Nat.reduceSub, List.replicate_succ, List.replicate_zero, List.cons_append, List.nil_append])
        (have ww1 := hl; refine wk ?_; clear ww1; (repeat' first | exact True.intro | refine Lf.mk ?_ ?_); all_goals intro hP)
        (refine resX ?_; try exact True.intro)
        all_goals simp [insOk, hl]
        all_goals (try first | rfl | omega | (rw [Bool.eq_iff_iff]; simp; omega))
      · have hz' : (rel != 0) = true := by simpa using hz
        (refine ARun.intro Try.func51 rfl Try.call51 Try.ntmps51 Try.results51 ?_; simp only [List.length_cons, List.length_nil, List.length_map, Nat.reduceAdd, Nat.reduceSub, List.replicate_succ, List.replicate_zero, List.cons_append, List.nil_append])
        (have ww1 := hl; have ww2 := hz'; refine wk ?_; clear ww1 ww2; (repeat' first | exact True.intro | refine Lf.mk ?_ ?_); all_goals intro hP)
        (refine resX ?_; try exact True.intro)
        all_goals simp [insOk, hl]
        all_goals (try first | rfl | omega | (rw [Bool.eq_iff_iff]; simp; omega))
  by_cases h13 : op = 13
  · subst h13
    by_cases hr : rel = 0
    · subst hr
      by_cases hl : i < nn
      · (refine ARun.intro Try.func51 rfl Try.call51 Try.ntmps51 Try.results51 ?_; simp only [List.length_cons, List.length_nil, List.length_map, Nat.reduceAdd, Nat.reduceSub, List.replicate_succ, List.replicate_zero, List.cons_append, List.nil_append])
        (have ww1 := hl; refine wk ?_; clear ww1; (repeat' first | exact True.intro | refine Lf.mk ?_ ?_); all_goals intro hP)
        (refine resX ?_; try exact True.intro)
        all_goals simp [insOk, hl]
        all_goals (try first | rfl | omega | (rw [Bool.eq_iff_iff]; simp; omega))
      · (refine ARun.intro Try.func51 rfl Try.call51 Try.ntmps51 Try.results51 ?_; simp only [List.length_cons, List.length_nil, List.length_map, Nat.reduceAdd, Nat.reduceSub, List.replicate_succ, List.replicate_zero, List.cons_append, List.nil_append])
        (have ww1 := hl; refine wk ?_; clear ww1; (repeat' first | exact True.intro | refine Lf.mk ?_ ?_); all_goals intro hP)
        (refine resX ?_; try exact True.intro)
        all_goals simp [insOk, hl]
        all_goals (try first | rfl | omega | (rw [Bool.eq_iff_iff]; simp; omega))
    · have hr' : (rel != 0) = true := by simpa using hr
      (refine ARun.intro Try.func51 rfl Try.call51 Try.ntmps51 Try.results51 ?_; simp only [List.length_cons, List.length_nil, List.length_map, Nat.reduceAdd, Nat.reduceSub, List.replicate_succ, List.replicate_zero, List.cons_append, List.nil_append])
      (have ww1 := hr'; refine wk ?_; clear ww1; (repeat' first | exact True.intro | refine Lf.mk ?_ ?_); all_goals intro hP)
      (refine resX ?_; try exact True.intro)
      all_goals simp [insOk, hr]
      all_goals (try first | rfl | omega | (rw [Bool.eq_iff_iff]; simp; omega))
  have e1 : (op == 1) = false := by simpa using h1
  have e2 : (op == 2) = false := by simpa using h2
  have e11 : (op == 11) = false := by simpa using h11
  have e3 : (op == 3) = false := by simpa using h3
  have e12 : (op == 12) = false := by simpa using h12
  have e13 : (op == 13) = false := by simpa using h13
  have ne12 : (op != 12) = true := by simpa using h12
  by_cases hlo : op < 1
  · have hn' : ¬ 4 ≤ op := by omega
    (refine ARun.intro Try.func51 rfl Try.call51 Try.ntmps51 Try.results51 ?_; simp only [List.length_cons, List.length_nil, List.length_map, Nat.reduceAdd, Nat.reduceSub, List.replicate_succ, List.replicate_zero, List.cons_append, List.nil_append])
    (have ww1 := hlo; have ww2 := e1; have ww3 := e2; have ww4 := e11; have ww5 := e3; have ww6 := e12; have ww7 := e13; have ww8 := ne12; refine wk ?_; clear ww1 ww2 ww3 ww4 ww5 ww6 ww7 ww8; (repeat' first | exact True.intro | refine Lf.mk ?_ ?_); all_goals intro hP)
    (refine resX ?_; try exact True.intro)
    all_goals simp [insOk, h1, h2, h3, h11, h12, h13, hn']
    all_goals (try first | rfl | omega | (rw [Bool.eq_iff_iff]; simp; omega))
  by_cases hhi : 13 < op
  · have hn' : ¬ op ≤ 10 := by omega
    (refine ARun.intro Try.func51 rfl Try.call51 Try.ntmps51 Try.results51 ?_; simp only [List.length_cons, List.length_nil, List.length_map, Nat.reduceAdd, Nat.reduceSub, List.replicate_succ, List.replicate_zero, List.cons_append, List.nil_append])
    (have ww1 := hlo; have ww2 := hhi; have ww3 := e1; have ww4 := e2; have ww5 := e11; have ww6 := e3; have ww7 := e12; have ww8 := e13; have ww9 := ne12; refine wk ?_; clear ww1 ww2 ww3 ww4 ww5 ww6 ww7 ww8 ww9; (repeat' first | exact True.intro | refine Lf.mk ?_ ?_); all_goals intro hP)
    (refine resX ?_; try exact True.intro)
    all_goals simp [insOk, h1, h2, h3, h11, h12, h13, hn']
    all_goals (try first | rfl | omega | (rw [Bool.eq_iff_iff]; simp; omega))
  have ho : 4 ≤ op ∧ op ≤ 10 := by omega
  by_cases hr : rel = 0
  · subst hr
    (refine ARun.intro Try.func51 rfl Try.call51 Try.ntmps51 Try.results51 ?_; simp only [List.length_cons, List.length_nil, List.length_map, Nat.reduceAdd, Nat.reduceSub, List.replicate_succ, List.replicate_zero, List.cons_append, List.nil_append])
    (have ww1 := hlo; have ww2 := hhi; have ww3 := e1; have ww4 := e2; have ww5 := e11; have ww6 := e3; have ww7 := e12; have ww8 := e13; have ww9 := ne12; refine wk ?_; clear ww1 ww2 ww3 ww4 ww5 ww6 ww7 ww8 ww9; (repeat' first | exact True.intro | refine Lf.mk ?_ ?_); all_goals intro hP)
    (refine resX ?_; try exact True.intro)
    all_goals simp [insOk, h1, h2, h3, h11, h12, h13, ho.1, ho.2]
    all_goals (try first | rfl | omega | (rw [Bool.eq_iff_iff]; simp; omega))
  · have hr' : (rel != 0) = true := by simpa using hr
    (refine ARun.intro Try.func51 rfl Try.call51 Try.ntmps51 Try.results51 ?_; simp only [List.length_cons, List.length_nil, List.length_map, Nat.reduceAdd, Nat.reduceSub, List.replicate_succ, List.replicate_zero, List.cons_append, List.nil_append])
    (have ww1 := hlo; have ww2 := hhi; have ww3 := hr'; have ww4 := e1; have ww5 := e2; have ww6 := e11; have ww7 := e3; have ww8 := e12; have ww9 := e13; have ww10 := ne12; refine wk ?_; clear ww1 ww2 ww3 ww4 ww5 ww6 ww7 ww8 ww9 ww10; (repeat' first | exact True.intro | refine Lf.mk ?_ ?_); all_goals intro hP)
    (refine resX ?_; try exact True.intro)
    all_goals simp [insOk, h1, h2, h3, h11, h12, h13, hr]
    all_goals (try first | rfl | omega | (rw [Bool.eq_iff_iff]; simp; omega))
end Go.Proofs.Ytiifbdkedainnaa.Y

set_option maxHeartbeats 8000000
set_option maxRecDepth 20000
set_option linter.unusedVariables false
set_option linter.unusedSimpArgs false
set_option linter.unusedSectionVars false
namespace Go.Proofs.Ytiifbdkedainnaa.Y
open Go.Proofs.Ytiifbdkedainnaa.AL Go.Proofs Go
attribute [local irreducible] AWP AWL AWG AWR AWE AWX AWO AWSeq AWSG AWSR AWSO AWSE AWSF GoodP OGW OGR OGE OGX PGW PGR PGE Wk AWLoop AWPD AWLD

def outC10 (r : Except Int Int) : AV := match r with
  | .ok v => .tup [.i v, .i 0]
  | .error e => .tup [.i 0, .i e]
theorem valS_out (n : Int) : outC10 (valS n) = if (decide (-1000000000000 ≤ n) && decide (n ≤ 1000000000000)) = true then .tup [.i n, .i 0] else .tup [.i 0, .i 3] := by
  unfold valS
  by_cases h : -1000000000000 ≤ n ∧ n ≤ 1000000000000
  · rw [if_pos h, if_pos (by simp [h.1, h.2])]; rfl
  · rw [if_neg h, if_neg (by simp; omega)]; rfl
end Go.Proofs.Ytiifbdkedainnaa.Y

set_option maxHeartbeats 8000000
set_option maxRecDepth 20000
set_option linter.unusedVariables false
set_option linter.unusedSimpArgs false
set_option linter.unusedSectionVars false
namespace Go.Proofs.Ytiifbdkedainnaa.Y
open Go.Proofs.Ytiifbdkedainnaa.AL Go.Proofs Go
attribute [local irreducible] AWP AWL AWG AWR AWE AWX AWO AWSeq AWSG AWSR AWSO AWSE AWSF GoodP OGW OGR OGE OGX PGW PGR PGE Wk AWLoop AWPD AWLD

abbrev rX (now : List Int) : AObj := .arr 3 1 (now.map fun v => [AV.i v])
theorem RHandler9_run (l : List Ins) (vars : Int) (hv : 0 ≤ vars ∧ vars ≤ 12) (hl : l.length ≤ 2000000) (H0 : List AObj) :
    ARun Try.prog 30 [.rs 3 (l.map encI), .i vars] H0 (.ret (.b (verH l vars)) H0) := by
  by_cases h4 : (4000 : Int) < l.length
  · have h4' : ¬ l.length ≤ 4000 := by omega
    (refine ARun.intro Try.func30 rfl Try.call30 Try.ntmps30 Try.results30 ?_; simp only [List.length_cons, List.length_nil, List.length_map, Nat.reduceAdd, Nat.reduceSub, List.replicate_succ, List.replicate_zero, List.cons_append, List.nil_append])
    (have ww1 := h4; refine wk ?_; clear ww1; (repeat' first | exact True.intro | refine Lf.mk ?_ ?_); all_goals intro hP)
    (refine resX ?_; try exact True.intro)
    simp [verH, h4']
  · have h4' : l.length ≤ 4000 := by omega
    have w1 : IntKind.i64.wrap ((l.length : Int) + 1) = ((l.length + 1 : Nat) : Int) := by rw [wrap_of (by omega) (by omega)]; omega
    have w3 : ¬ ((l.length : Int) + 1 < 0) := by omega
    have hk1 : ((l.length + 1 : Nat) : Int) ≤ 281474976710656 := by omega
    have hk2 : 8 * ((l.length + 1 : Nat) : Int) ≤ 281474976710656 := by omega
    rw [verH_eq h4']
    (refine ARun.intro Try.func30 rfl Try.call30 Try.ntmps30 Try.results30 ?_; simp only [List.length_cons, List.length_nil, List.length_map, Nat.reduceAdd, Nat.reduceSub, List.replicate_succ, List.replicate_zero, List.cons_append, List.nil_append])
    (have ww1 := h4; have ww2 := w1; have ww3 := hk1; have ww4 := hk2; have ww5 := and_self; refine wk ?_; clear ww1 ww2 ww3 ww4 ww5; (repeat' first | exact True.intro | refine Lf.mk ?_ ?_); all_goals intro hP)
    refine awp_loop_ind (σ := Nat) (fun k => l.length + 1 - k) (fun k => 1 ≤ k ∧ k ≤ l.length + 1)
      (fun k => (.rs 3 (l.map encI) :: .i vars :: .any :: .any :: .any :: .os H0.length 0 (l.length + 1) (l.length + 1) :: .i k :: .any :: .any :: .any :: .any :: .any :: .any :: .any :: .any :: .any :: .any :: .any :: .any :: .any :: .any :: .any :: .any :: .any :: .any :: .any :: .any :: .any :: .any :: .any :: .any :: .any :: .any :: .any :: .any :: .any :: .any :: .any :: .any :: .any :: .any :: .any :: .any :: .any :: .any :: .any :: .any :: .any :: .any :: .any :: .any :: .any :: .any :: .any :: .any :: .any :: .any :: .any :: .any :: .any :: .any :: .any :: .any :: .any :: .any :: .any :: .any :: .any :: .any :: .any :: .any :: .any :: .any :: .any :: .any :: .any :: .any :: .any :: .any :: .any :: .any :: .any :: .any :: .any :: .any :: .any :: .any :: .any :: .any :: .any :: .any :: .any :: .any :: .any :: .any :: .any :: .any :: .any :: .any :: .any :: .any :: .any :: .any :: .any :: .any :: .any :: .any :: .any :: .any :: .any :: .any :: .any :: .any :: .any :: .any :: .any :: .any :: .any :: .any :: .any :: .any :: .any :: .any :: .any :: .any :: .any :: .any :: .any :: .any :: .any :: .any :: .any :: .any :: []))
      (fun k => H0 ++ [rX ((0 :: List.replicate l.length (-1)).take k ++ (List.replicate (l.length + 1) 0).drop k)]) 1 ⟨by omega, by omega⟩ ?_ ?_
    · refine Wk.fgtE ?_ (by (refine fgX ?_; try exact True.intro))
      simp [rX]
    · rintro k ⟨k1, k2⟩
      by_cases hk : k = l.length + 1
      · subst hk
        have hkl : ¬ ((l.length + 1 : Nat) : Int) ≤ l.length := by omega
        (have ww1 := hkl; refine wk ?_; clear ww1; (repeat' first | exact True.intro | refine Lf.mk ?_ ?_); all_goals intro hP)
        refine awp_loop_ind (σ := Nat × List Int) (fun s => l.length - s.1)
          (fun s => s.1 ≤ l.length ∧ s.2.length = l.length + 1 ∧ HsOk s.2 ∧ hLoop l.length vars l 0 (0 :: List.replicate l.length (-1)) = hLoop l.length vars (l.drop s.1) s.1 s.2)
          (fun s => (.rs 3 (l.map encI) :: .i vars :: .any :: .any :: .any :: .os H0.length 0 (l.length + 1) (l.length + 1) :: .any :: .i s.1 :: .any :: .any :: .any :: .any :: .any :: .any :: .any :: .any :: .any :: .any :: .any :: .any :: .any :: .any :: .any :: .any :: .any :: .any :: .any :: .any :: .any :: .any :: .any :: .any :: .any :: .any :: .any :: .any :: .any :: .any :: .any :: .any :: .any :: .any :: .any :: .any :: .any :: .any :: .any :: .any :: .any :: .any :: .any :: .any :: .any :: .any :: .any :: .any :: .any :: .any :: .any :: .any :: .any :: .any :: .any :: .any :: .any :: .any :: .any :: .any :: .any :: .any :: .any :: .any :: .any :: .any :: .any :: .any :: .any :: .any :: .any :: .any :: .any :: .any :: .any :: .any :: .any :: .any :: .any :: .any :: .any :: .any :: .any :: .any :: .any :: .any :: .any :: .any :: .any :: .any :: .any :: .any :: .any :: .any :: .any :: .any :: .any :: .any :: .any :: .any :: .any :: .any :: .any :: .any :: .any :: .any :: .any :: .any :: .any :: .any :: .any :: .any :: .any :: .any :: .any :: .any :: .any :: .any :: .any :: .any :: .any :: .any :: .any :: .any :: .any :: []))
          (fun s => H0 ++ [rX s.2]) (0, 0 :: List.replicate l.length (-1)) ⟨Nat.zero_le _, by simp, HsOk.start _, by simp⟩ ?_ ?_
        · refine Wk.fgtE ?_ (by (refine fgX ?_; try exact True.intro))
          simp [rX, List.take_of_length_le]
        · rintro ⟨i, hs⟩ ⟨h1, h2, h3, h5⟩
          simp only at h1 h2 h3 h5 ⊢
          obtain ⟨y, hy⟩ := get_some (hs := hs) (i := i) (by omega)
          have yb := h3.get hy
          have hy' : (hs.map fun v => [AV.i v])[i]? = some [AV.i y] := by rw [List.getElem?_map, hy]; rfl
          have hil : (i : Int) < (l.length + 1 : Nat) := by omega
          cases hr : l.drop i with
          | nil =>
            have hlt := drop_nil hr
            obtain rfl : i = l.length := by have := List.drop_eq_nil_iff.1 hr; omega
            rw [hr, hLoop_nil hy] at h5
            rw [h5]
            (have ww1 := hlt; have ww2 := h2; have ww3 := hil; have ww4 := hy'; refine wk ?_; clear ww1 ww2 ww3 ww4; (repeat' first | exact True.intro | refine Lf.mk ?_ ?_); all_goals intro hP)
            (refine resX ?_; try exact True.intro)
          | cons x rest =>
            obtain ⟨hx, hlt, hd, hm⟩ := drop_cons hr
            rw [hr, hLoop_cons] at h5
            obtain ⟨op, nn, rel⟩ := x
            have hx' : (l.map encI)[i]? = some (cI ⟨op, nn, rel⟩) := by rw [List.getElem?_map, hx]; rfl
            have hins := fun H0 => Rinstr_run op nn rel i l.length vars H0
            have hw1 : IntKind.i64.wrap ((i : Int) + 1) = ((i + 1 : Nat) : Int) := by rw [wrap_of (by omega) (by omega)]; omega
            have hi1 : ((i + 1 : Nat) : Int) < (l.length + 1 : Nat) := by omega
            cases hok : insOk ⟨op, nn, rel⟩ i l.length vars with
            | false =>
              rw [hStep_bad hy (.inr (.inl hok))] at h5
              simp only at h5
              rw [h5]
              simp only [hok] at hins
              (have ww1 := hlt; have ww2 := h2; have ww3 := hil; have ww4 := hx'; have ww5 := hy'; have cc1 := fun z1 => hins z1; refine wk ?_; clear ww1 ww2 ww3 ww4 ww5 cc1; (repeat' first | exact True.intro | refine Lf.mk ?_ ?_); all_goals intro hP)
              (refine resX ?_; try exact True.intro)
            | true =>
              simp only [hok] at hins
              have hop := insOk_op hok
              simp only at hop
              have t1 := takes_nn op
              have t2 : takes op ≤ 2 := by unfold takes; repeat' split <;> omega
              have p1 := puts_nn op
              have p2 : puts op ≤ 1 := by unfold puts; split <;> omega
              have htk := fun H0 => RTakes_run op hop H0
              by_cases hy0 : y < 0
              · rw [hStep_bad hy (.inl (by omega))] at h5
                simp only at h5
                rw [h5]
                (have ww1 := hlt; have ww2 := h2; have ww3 := hil; have ww4 := hx'; have ww5 := hy'; have ww6 := hy0; have cc1 := fun z1 => hins z1; refine wk ?_; clear ww1 ww2 ww3 ww4 ww5 ww6 cc1; (repeat' first | exact True.intro | refine Lf.mk ?_ ?_); all_goals intro hP)
                (refine resX ?_; try exact True.intro)
              have wy1 : IntKind.i64.wrap (y - takes op) = y - takes op := wrap_of (by omega) (by omega)
              have wy2 : IntKind.i64.wrap (y - takes op + puts op) = y - takes op + puts op := wrap_of (by omega) (by omega)
              by_cases hty : y < takes op
              · rw [hStep_bad hy (.inr (.inr hty))] at h5
                simp only at h5
                rw [h5]
                (have ww1 := hlt; have ww2 := h2; have ww3 := hil; have ww4 := hx'; have ww5 := hy'; have ww6 := hy0; have ww7 := hty; have ww8 := wy1; have ww9 := wy2; have cc1 := fun z1 => hins z1; have cc2 := fun z1 => htk z1; refine wk ?_; clear ww1 ww2 ww3 ww4 ww5 ww6 ww7 ww8 ww9 cc1 cc2; (repeat' first | exact True.intro | refine Lf.mk ?_ ?_); all_goals intro hP)
                (refine resX ?_; try exact True.intro)
              by_cases hdp : 64 < y - takes op + puts op
              · rw [hStep_deep hy hdp] at h5
                simp only at h5
                rw [h5]
                (have ww1 := hlt; have ww2 := h2; have ww3 := hil; have ww4 := hx'; have ww5 := hy'; have ww6 := hy0; have ww7 := hty; have ww8 := hdp; have ww9 := wy1; have ww10 := wy2; have cc1 := fun z1 => hins z1; have cc2 := fun z1 => htk z1; refine wk ?_; clear ww1 ww2 ww3 ww4 ww5 ww6 ww7 ww8 ww9 ww10 cc1 cc2; (repeat' first | exact True.intro | refine Lf.mk ?_ ?_); all_goals intro hP)
                (refine resX ?_; try exact True.intro)
              have hnb : ¬ (y = -1 ∨ insOk ⟨op, nn, rel⟩ i l.length vars = false ∨ y < takes op) := by rw [hok]; simp; omega
              have hdb : -1 ≤ y - takes op + puts op ∧ y - takes op + puts op ≤ 64 := by omega
              have hdn : 0 ≤ y - takes op + puts op := by omega
              have g12 := hStep_12 (len := l.length) (vars := vars) (x := ⟨op, nn, rel⟩) hy hnb hdp
              have g13 := hStep_13 (len := l.length) (vars := vars) (x := ⟨op, nn, rel⟩) hy hnb hdp
              have ggo := hStep_go (len := l.length) (vars := vars) (x := ⟨op, nn, rel⟩) hy hnb hdp
              have hj := insOk_jump hok
              simp only at g12 g13 ggo hj
              generalize hdd : y - takes op + puts op = d at *
              by_cases h12 : op = 12
              · subst h12
                obtain ⟨a, rfl⟩ : ∃ a : Nat, nn = a := ⟨nn.toNat, by omega⟩
                have ha : (a : Int) < (l.length + 1 : Nat) := by omega
                rw [g12 rfl, Int.toNat_natCast] at h5
                obtain ⟨y1, hy1⟩ := get_some (hs := hs) (i := a) (by simp only [h2]; omega)
                have yb1 := h3.get hy1
                have hy1' : ((hs).map fun v => [AV.i v])[a]? = some [AV.i y1] := by rw [List.getElem?_map, hy1]; rfl
                by_cases hn1 : y1 < 0
                · have hm1 : ¬ 0 ≤ y1 := by omega
                  rw [reachS_ok hy1 (.inl (by omega))] at h5
                  simp only at h5
                  have hlen2 : (hs.set a d).length = l.length + 1 := by simp [h2]
                  obtain ⟨y2, hy2⟩ := get_some (hs := hs.set a d) (i := i + 1) (by simp only [List.length_set, h2]; omega)
                  have yb2 := (h3.set a hdb).get hy2
                  have hy2' : ((hs.set a d).map fun v => [AV.i v])[i + 1]? = some [AV.i y2] := by rw [List.getElem?_map, hy2]; rfl
                  by_cases hn2 : y2 < 0
                  · have hm2 : ¬ 0 ≤ y2 := by omega
                    rw [reachS_ok hy2 (.inl (by omega))] at h5
                    simp only at h5
                    repeat' (first | refine awp_seq ?_ | refine awp_block ?_ | refine awp_scope ?_ | ((first | refine awp_region_k fun Kn Kp hn hp => ?_ | refine oge_intro (by assumption) ?_ | (show AWE _ _ _ _ _ _ _ _ _; first | refine awe_intro (hins _) ?_ | refine awe_intro (htk _) ?_) | (show AWSF _ _ _ _ _ _ _ _ _ _ _; first | refine awsf_intro (hins _) (fun hrun => ?_) | refine awsf_intro (htk _) (fun hrun => ?_)) | (show OGE _ _ _ _ _ _ _; first | refine oge_intro (hins _) ?_ | refine oge_intro (htk _) ?_) | (show AWSE _ _ _ _ _ _ _ _ _ _ _; first | refine awse_intro (hins _) (fun hrun => ?_) | refine awse_intro (htk _) (fun hrun => ?_)) | (show PGE _ _ _ _ _; first | refine pge_intro (hins _) (fun tm' => ?_) | refine pge_intro (htk _) (fun tm' => ?_))) <;> (simp only [go_sem, Nat.reduceAdd, Nat.reduceSub, Nat.reduceMul, Nat.reduceLeDiff, Nat.reduceLT, Nat.reduceEqDiff, Int.reduceToNat, Int.reduceAdd, Int.reduceMul, Int.reduceSub, Int.reduceLT, Int.reduceLE, Int.reduceEq, Int.reduceNeg, Int.reduceBEq, Int.reduceBNe, ↓reduceIte, reduceCtorEq, hdd, hlt, List.length_map, h2, hil, hx', hy', hy0, hty, hdp, wy1, wy2, hw1, hi1, Option.map_some, row_set, Int.toNat_natCast, ha, hy1', hm1, ha, List.length_set, hlen2, hy2', hm2] <;> try simp (disch := omega) only [wrap_of])) | (refine hn _ _ ?_; clear hn hp Kn Kp) | (refine hp _ _ _ ?_; clear hn hp Kn Kp) | (refine awp_cond rfl (fun hb => ?_) (fun hb => ?_) <;> (try simp only [decide_eq_true_eq, decide_eq_false_iff_not, Bool.not_eq_true', Bool.not_eq_false', Bool.true_eq_false, Bool.false_eq_true, beq_iff_eq, bne_iff_ne, bne_eq_false_iff_eq, beq_eq_false_iff_ne, gt_iff_lt, ge_iff_le, Int.reduceEq, Int.reduceNe, Int.reduceLT, Int.reduceLE, ne_eq, not_true_eq_false, not_false_eq_true] at hb)) | ((first | refine awg_split (fun hb => ?_) (fun hb => ?_) | refine awsg_split (fun hb => ?_) (fun hb => ?_)) <;> have hb0 := hb <;> (try simp only [decide_eq_true_eq, decide_eq_false_iff_not, Bool.not_eq_true', Bool.not_eq_false', Bool.true_eq_false, Bool.false_eq_true, beq_iff_eq, bne_iff_ne, bne_eq_false_iff_eq, beq_eq_false_iff_ne, gt_iff_lt, ge_iff_le, Int.reduceEq, Int.reduceNe, Int.reduceLT, Int.reduceLE, ne_eq, not_true_eq_false, not_false_eq_true] at hb0) <;> (try simp only [beq_true, beq_false, Bool.not_eq_true', Bool.not_eq_false'] at hb) <;> (simp only [go_sem, Nat.reduceAdd, Nat.reduceSub, Nat.reduceMul, Nat.reduceLeDiff, Nat.reduceLT, Nat.reduceEqDiff, Int.reduceToNat, Int.reduceAdd, Int.reduceMul, Int.reduceSub, Int.reduceLT, Int.reduceLE, Int.reduceEq, Int.reduceNeg, Int.reduceBEq, Int.reduceBNe, ↓reduceIte, reduceCtorEq, hdd, hlt, List.length_map, h2, hil, hx', hy', hy0, hty, hdp, wy1, wy2, hw1, hi1, Option.map_some, row_set, Int.toNat_natCast, ha, hy1', hm1, ha, List.length_set, hlen2, hy2', hm2, hb, hb0] <;> try simp (disch := omega) only [wrap_of])) | (refine And.intro ?_ ?_) | refine awp_skip ?_ | refine awp_ret ?_ | refine awp_exit ?_ | refine awp_label ?_ | refine awloop_step ?_ | fail)
                    refine ⟨(i + 1, (hs.set a d).set (i + 1) d), by simp only; omega, ⟨by simp only; omega, by simp [h2], (h3.set a hdb).set _ hdb, by simp only; rw [hd]; exact h5⟩, ?_⟩
                    refine Wk.keepE 1 1 (by simp) (by simp) (by intro o ho; rw [List.mem_singleton] at ho; subst ho; exact row_under) ?_
                    simp only [List.map_cons, List.map_nil, AV.low, Fgt, Nat.lt_add_one, if_true, true_or, or_true, and_true, true_and]
                  have hp2 : 0 ≤ y2 := by omega
                  by_cases hq2 : y2 = d
                  · have hqb2 : (y2 != d) = false := by simp [hq2]
                    rw [reachS_ok hy2 (.inr hq2)] at h5
                    simp only at h5
                    repeat' (first | refine awp_seq ?_ | refine awp_block ?_ | refine awp_scope ?_ | ((first | refine awp_region_k fun Kn Kp hn hp => ?_ | refine oge_intro (by assumption) ?_ | (show AWE _ _ _ _ _ _ _ _ _; first | refine awe_intro (hins _) ?_ | refine awe_intro (htk _) ?_) | (show AWSF _ _ _ _ _ _ _ _ _ _ _; first | refine awsf_intro (hins _) (fun hrun => ?_) | refine awsf_intro (htk _) (fun hrun => ?_)) | (show OGE _ _ _ _ _ _ _; first | refine oge_intro (hins _) ?_ | refine oge_intro (htk _) ?_) | (show AWSE _ _ _ _ _ _ _ _ _ _ _; first | refine awse_intro (hins _) (fun hrun => ?_) | refine awse_intro (htk _) (fun hrun => ?_)) | (show PGE _ _ _ _ _; first | refine pge_intro (hins _) (fun tm' => ?_) | refine pge_intro (htk _) (fun tm' => ?_))) <;> (simp only [go_sem, Nat.reduceAdd, Nat.reduceSub, Nat.reduceMul, Nat.reduceLeDiff, Nat.reduceLT, Nat.reduceEqDiff, Int.reduceToNat, Int.reduceAdd, Int.reduceMul, Int.reduceSub, Int.reduceLT, Int.reduceLE, Int.reduceEq, Int.reduceNeg, Int.reduceBEq, Int.reduceBNe, ↓reduceIte, reduceCtorEq, hdd, hlt, List.length_map, h2, hil, hx', hy', hy0, hty, hdp, wy1, wy2, hw1, hi1, Option.map_some, row_set, Int.toNat_natCast, ha, hy1', hm1, ha, List.length_set, hlen2, hy2', hp2, hqb2] <;> try simp (disch := omega) only [wrap_of])) | (refine hn _ _ ?_; clear hn hp Kn Kp) | (refine hp _ _ _ ?_; clear hn hp Kn Kp) | (refine awp_cond rfl (fun hb => ?_) (fun hb => ?_) <;> (try simp only [decide_eq_true_eq, decide_eq_false_iff_not, Bool.not_eq_true', Bool.not_eq_false', Bool.true_eq_false, Bool.false_eq_true, beq_iff_eq, bne_iff_ne, bne_eq_false_iff_eq, beq_eq_false_iff_ne, gt_iff_lt, ge_iff_le, Int.reduceEq, Int.reduceNe, Int.reduceLT, Int.reduceLE, ne_eq, not_true_eq_false, not_false_eq_true] at hb)) | ((first | refine awg_split (fun hb => ?_) (fun hb => ?_) | refine awsg_split (fun hb => ?_) (fun hb => ?_)) <;> have hb0 := hb <;> (try simp only [decide_eq_true_eq, decide_eq_false_iff_not, Bool.not_eq_true', Bool.not_eq_false', Bool.true_eq_false, Bool.false_eq_true, beq_iff_eq, bne_iff_ne, bne_eq_false_iff_eq, beq_eq_false_iff_ne, gt_iff_lt, ge_iff_le, Int.reduceEq, Int.reduceNe, Int.reduceLT, Int.reduceLE, ne_eq, not_true_eq_false, not_false_eq_true] at hb0) <;> (try simp only [beq_true, beq_false, Bool.not_eq_true', Bool.not_eq_false'] at hb) <;> (simp only [go_sem, Nat.reduceAdd, Nat.reduceSub, Nat.reduceMul, Nat.reduceLeDiff, Nat.reduceLT, Nat.reduceEqDiff, Int.reduceToNat, Int.reduceAdd, Int.reduceMul, Int.reduceSub, Int.reduceLT, Int.reduceLE, Int.reduceEq, Int.reduceNeg, Int.reduceBEq, Int.reduceBNe, ↓reduceIte, reduceCtorEq, hdd, hlt, List.length_map, h2, hil, hx', hy', hy0, hty, hdp, wy1, wy2, hw1, hi1, Option.map_some, row_set, Int.toNat_natCast, ha, hy1', hm1, ha, List.length_set, hlen2, hy2', hp2, hqb2, hb, hb0] <;> try simp (disch := omega) only [wrap_of])) | (refine And.intro ?_ ?_) | refine awp_skip ?_ | refine awp_ret ?_ | refine awp_exit ?_ | refine awp_label ?_ | refine awloop_step ?_ | fail)
                    refine ⟨(i + 1, (hs.set a d).set (i + 1) d), by simp only; omega, ⟨by simp only; omega, by simp [h2], (h3.set a hdb).set _ hdb, by simp only; rw [hd]; exact h5⟩, ?_⟩
                    refine Wk.keepE 1 1 (by simp) (by simp) (by intro o ho; rw [List.mem_singleton] at ho; subst ho; exact row_under) ?_
                    simp only [List.map_cons, List.map_nil, AV.low, Fgt, Nat.lt_add_one, if_true, true_or, or_true, and_true, true_and]
                  · have hqb2 : (y2 != d) = true := by simp [hq2]
                    rw [reachS_no hy2 (by omega)] at h5
                    simp only at h5
                    rw [h5]
                    repeat' (first | refine awp_seq ?_ | refine awp_block ?_ | refine awp_scope ?_ | ((first | refine awp_region_k fun Kn Kp hn hp => ?_ | refine oge_intro (by assumption) ?_ | (show AWE _ _ _ _ _ _ _ _ _; first | refine awe_intro (hins _) ?_ | refine awe_intro (htk _) ?_) | (show AWSF _ _ _ _ _ _ _ _ _ _ _; first | refine awsf_intro (hins _) (fun hrun => ?_) | refine awsf_intro (htk _) (fun hrun => ?_)) | (show OGE _ _ _ _ _ _ _; first | refine oge_intro (hins _) ?_ | refine oge_intro (htk _) ?_) | (show AWSE _ _ _ _ _ _ _ _ _ _ _; first | refine awse_intro (hins _) (fun hrun => ?_) | refine awse_intro (htk _) (fun hrun => ?_)) | (show PGE _ _ _ _ _; first | refine pge_intro (hins _) (fun tm' => ?_) | refine pge_intro (htk _) (fun tm' => ?_))) <;> (simp only [go_sem, Nat.reduceAdd, Nat.reduceSub, Nat.reduceMul, Nat.reduceLeDiff, Nat.reduceLT, Nat.reduceEqDiff, Int.reduceToNat, Int.reduceAdd, Int.reduceMul, Int.reduceSub, Int.reduceLT, Int.reduceLE, Int.reduceEq, Int.reduceNeg, Int.reduceBEq, Int.reduceBNe, ↓reduceIte, reduceCtorEq, hdd, hlt, List.length_map, h2, hil, hx', hy', hy0, hty, hdp, wy1, wy2, hw1, hi1, Option.map_some, row_set, Int.toNat_natCast, ha, hy1', hm1, ha, List.length_set, hlen2, hy2', hp2, hqb2] <;> try simp (disch := omega) only [wrap_of])) | (refine hn _ _ ?_; clear hn hp Kn Kp) | (refine hp _ _ _ ?_; clear hn hp Kn Kp) | (refine awp_cond rfl (fun hb => ?_) (fun hb => ?_) <;> (try simp only [decide_eq_true_eq, decide_eq_false_iff_not, Bool.not_eq_true', Bool.not_eq_false', Bool.true_eq_false, Bool.false_eq_true, beq_iff_eq, bne_iff_ne, bne_eq_false_iff_eq, beq_eq_false_iff_ne, gt_iff_lt, ge_iff_le, Int.reduceEq, Int.reduceNe, Int.reduceLT, Int.reduceLE, ne_eq, not_true_eq_false, not_false_eq_true] at hb)) | ((first | refine awg_split (fun hb => ?_) (fun hb => ?_) | refine awsg_split (fun hb => ?_) (fun hb => ?_)) <;> have hb0 := hb <;> (try simp only [decide_eq_true_eq, decide_eq_false_iff_not, Bool.not_eq_true', Bool.not_eq_false', Bool.true_eq_false, Bool.false_eq_true, beq_iff_eq, bne_iff_ne, bne_eq_false_iff_eq, beq_eq_false_iff_ne, gt_iff_lt, ge_iff_le, Int.reduceEq, Int.reduceNe, Int.reduceLT, Int.reduceLE, ne_eq, not_true_eq_false, not_false_eq_true] at hb0) <;> (try simp only [beq_true, beq_false, Bool.not_eq_true', Bool.not_eq_false'] at hb) <;> (simp only [go_sem, Nat.reduceAdd, Nat.reduceSub, Nat.reduceMul, Nat.reduceLeDiff, Nat.reduceLT, Nat.reduceEqDiff, Int.reduceToNat, Int.reduceAdd, Int.reduceMul, Int.reduceSub, Int.reduceLT, Int.reduceLE, Int.reduceEq, Int.reduceNeg, Int.reduceBEq, Int.reduceBNe, ↓reduceIte, reduceCtorEq, hdd, hlt, List.length_map, h2, hil, hx', hy', hy0, hty, hdp, wy1, wy2, hw1, hi1, Option.map_some, row_set, Int.toNat_natCast, ha, hy1', hm1, ha, List.length_set, hlen2, hy2', hp2, hqb2, hb, hb0] <;> try simp (disch := omega) only [wrap_of])) | (refine And.intro ?_ ?_) | refine awp_skip ?_ | refine awp_ret ?_ | refine awp_exit ?_ | refine awp_label ?_ | refine awloop_step ?_ | fail)
                    (refine resX ?_; try exact True.intro)
                have hp1 : 0 ≤ y1 := by omega
                by_cases hq1 : y1 = d
                · have hqb1 : (y1 != d) = false := by simp [hq1]
                  rw [reachS_ok hy1 (.inr hq1)] at h5
                  simp only at h5
                  have hlen2 : (hs.set a d).length = l.length + 1 := by simp [h2]
                  obtain ⟨y2, hy2⟩ := get_some (hs := hs.set a d) (i := i + 1) (by simp only [List.length_set, h2]; omega)
                  have yb2 := (h3.set a hdb).get hy2
                  have hy2' : ((hs.set a d).map fun v => [AV.i v])[i + 1]? = some [AV.i y2] := by rw [List.getElem?_map, hy2]; rfl
                  by_cases hn2 : y2 < 0
                  · have hm2 : ¬ 0 ≤ y2 := by omega
                    rw [reachS_ok hy2 (.inl (by omega))] at h5
                    simp only at h5
                    repeat' (first | refine awp_seq ?_ | refine awp_block ?_ | refine awp_scope ?_ | ((first | refine awp_region_k fun Kn Kp hn hp => ?_ | refine oge_intro (by assumption) ?_ | (show AWE _ _ _ _ _ _ _ _ _; first | refine awe_intro (hins _) ?_ | refine awe_intro (htk _) ?_) | (show AWSF _ _ _ _ _ _ _ _ _ _ _; first | refine awsf_intro (hins _) (fun hrun => ?_) | refine awsf_intro (htk _) (fun hrun => ?_)) | (show OGE _ _ _ _ _ _ _; first | refine oge_intro (hins _) ?_ | refine oge_intro (htk _) ?_) | (show AWSE _ _ _ _ _ _ _ _ _ _ _; first | refine awse_intro (hins _) (fun hrun => ?_) | refine awse_intro (htk _) (fun hrun => ?_)) | (show PGE _ _ _ _ _; first | refine pge_intro (hins _) (fun tm' => ?_) | refine pge_intro (htk _) (fun tm' => ?_))) <;> (simp only [go_sem, Nat.reduceAdd, Nat.reduceSub, Nat.reduceMul, Nat.reduceLeDiff, Nat.reduceLT, Nat.reduceEqDiff, Int.reduceToNat, Int.reduceAdd, Int.reduceMul, Int.reduceSub, Int.reduceLT, Int.reduceLE, Int.reduceEq, Int.reduceNeg, Int.reduceBEq, Int.reduceBNe, ↓reduceIte, reduceCtorEq, hdd, hlt, List.length_map, h2, hil, hx', hy', hy0, hty, hdp, wy1, wy2, hw1, hi1, Option.map_some, row_set, Int.toNat_natCast, ha, hy1', hp1, hqb1, ha, List.length_set, hlen2, hy2', hm2] <;> try simp (disch := omega) only [wrap_of])) | (refine hn _ _ ?_; clear hn hp Kn Kp) | (refine hp _ _ _ ?_; clear hn hp Kn Kp) | (refine awp_cond rfl (fun hb => ?_) (fun hb => ?_) <;> (try simp only [decide_eq_true_eq, decide_eq_false_iff_not, Bool.not_eq_true', Bool.not_eq_false', Bool.true_eq_false, Bool.false_eq_true, beq_iff_eq, bne_iff_ne, bne_eq_false_iff_eq, beq_eq_false_iff_ne, gt_iff_lt, ge_iff_le, Int.reduceEq, Int.reduceNe, Int.reduceLT, Int.reduceLE, ne_eq, not_true_eq_false, not_false_eq_true] at hb)) | ((first | refine awg_split (fun hb => ?_) (fun hb => ?_) | refine awsg_split (fun hb => ?_) (fun hb => ?_)) <;> have hb0 := hb <;> (try simp only [decide_eq_true_eq, decide_eq_false_iff_not, Bool.not_eq_true', Bool.not_eq_false', Bool.true_eq_false, Bool.false_eq_true, beq_iff_eq, bne_iff_ne, bne_eq_false_iff_eq, beq_eq_false_iff_ne, gt_iff_lt, ge_iff_le, Int.reduceEq, Int.reduceNe, Int.reduceLT, Int.reduceLE, ne_eq, not_true_eq_false, not_false_eq_true] at hb0) <;> (try simp only [beq_true, beq_false, Bool.not_eq_true', Bool.not_eq_false'] at hb) <;> (simp only [go_sem, Nat.reduceAdd, Nat.reduceSub, Nat.reduceMul, Nat.reduceLeDiff, Nat.reduceLT, Nat.reduceEqDiff, Int.reduceToNat, Int.reduceAdd, Int.reduceMul, Int.reduceSub, Int.reduceLT, Int.reduceLE, Int.reduceEq, Int.reduceNeg, Int.reduceBEq, Int.reduceBNe, ↓reduceIte, reduceCtorEq, hdd, hlt, List.length_map, h2, hil, hx', hy', hy0, hty, hdp, wy1, wy2, hw1, hi1, Option.map_some, row_set, Int.toNat_natCast, ha, hy1', hp1, hqb1, ha, List.length_set, hlen2, hy2', hm2, hb, hb0] <;> try simp (disch := omega) only [wrap_of])) | (refine And.intro ?_ ?_) | refine awp_skip ?_ | refine awp_ret ?_ | refine awp_exit ?_ | refine awp_label ?_ | refine awloop_step ?_ | fail)
                    refine ⟨(i + 1, (hs.set a d).set (i + 1) d), by simp only; omega, ⟨by simp only; omega, by simp [h2], (h3.set a hdb).set _ hdb, by simp only; rw [hd]; exact h5⟩, ?_⟩
                    refine Wk.keepE 1 1 (by simp) (by simp) (by intro o ho; rw [List.mem_singleton] at ho; subst ho; exact row_under) ?_
                    simp only [List.map_cons, List.map_nil, AV.low, Fgt, Nat.lt_add_one, if_true, true_or, or_true, and_true, true_and]
                  have hp2 : 0 ≤ y2 := by omega
                  by_cases hq2 : y2 = d
                  · have hqb2 : (y2 != d) = false := by simp [hq2]
                    rw [reachS_ok hy2 (.inr hq2)] at h5
                    simp only at h5
                    repeat' (first | refine awp_seq ?_ | refine awp_block ?_ | refine awp_scope ?_ | ((first | refine awp_region_k fun Kn Kp hn hp => ?_ | refine oge_intro (by assumption) ?_ | (show AWE _ _ _ _ _ _ _ _ _; first | refine awe_intro (hins _) ?_ | refine awe_intro (htk _) ?_) | (show AWSF _ _ _ _ _ _ _ _ _ _ _; first | refine awsf_intro (hins _) (fun hrun => ?_) | refine awsf_intro (htk _) (fun hrun => ?_)) | (show OGE _ _ _ _ _ _ _; first | refine oge_intro (hins _) ?_ | refine oge_intro (htk _) ?_) | (show AWSE _ _ _ _ _ _ _ _ _ _ _; first | refine awse_intro (hins _) (fun hrun => ?_) | refine awse_intro (htk _) (fun hrun => ?_)) | (show PGE _ _ _ _ _; first | refine pge_intro (hins _) (fun tm' => ?_) | refine pge_intro (htk _) (fun tm' => ?_))) <;> (simp only [go_sem, Nat.reduceAdd, Nat.reduceSub, Nat.reduceMul, Nat.reduceLeDiff, Nat.reduceLT, Nat.reduceEqDiff, Int.reduceToNat, Int.reduceAdd, Int.reduceMul, Int.reduceSub, Int.reduceLT, Int.reduceLE, Int.reduceEq, Int.reduceNeg, Int.reduceBEq, Int.reduceBNe, ↓reduceIte, reduceCtorEq, hdd, hlt, List.length_map, h2, hil, hx', hy', hy0, hty, hdp, wy1, wy2, hw1, hi1, Option.map_some, row_set, Int.toNat_natCast, ha, hy1', hp1, hqb1, ha, List.length_set, hlen2, hy2', hp2, hqb2] <;> try simp (disch := omega) only [wrap_of])) | (refine hn _ _ ?_; clear hn hp Kn Kp) | (refine hp _ _ _ ?_; clear hn hp Kn Kp) | (refine awp_cond rfl (fun hb => ?_) (fun hb => ?_) <;> (try simp only [decide_eq_true_eq, decide_eq_false_iff_not, Bool.not_eq_true', Bool.not_eq_false', Bool.true_eq_false, Bool.false_eq_true, beq_iff_eq, bne_iff_ne, bne_eq_false_iff_eq, beq_eq_false_iff_ne, gt_iff_lt, ge_iff_le, Int.reduceEq, Int.reduceNe, Int.reduceLT, Int.reduceLE, ne_eq, not_true_eq_false, not_false_eq_true] at hb)) | ((first | refine awg_split (fun hb => ?_) (fun hb => ?_) | refine awsg_split (fun hb => ?_) (fun hb => ?_)) <;> have hb0 := hb <;> (try simp only [decide_eq_true_eq, decide_eq_false_iff_not, Bool.not_eq_true', Bool.not_eq_false', Bool.true_eq_false, Bool.false_eq_true, beq_iff_eq, bne_iff_ne, bne_eq_false_iff_eq, beq_eq_false_iff_ne, gt_iff_lt, ge_iff_le, Int.reduceEq, Int.reduceNe, Int.reduceLT, Int.reduceLE, ne_eq, not_true_eq_false, not_false_eq_true] at hb0) <;> (try simp only [beq_true, beq_false, Bool.not_eq_true', Bool.not_eq_false'] at hb) <;> (simp only [go_sem, Nat.reduceAdd, Nat.reduceSub, Nat.reduceMul, Nat.reduceLeDiff, Nat.reduceLT, Nat.reduceEqDiff, Int.reduceToNat, Int.reduceAdd, Int.reduceMul, Int.reduceSub, Int.reduceLT, Int.reduceLE, Int.reduceEq, Int.reduceNeg, Int.reduceBEq, Int.reduceBNe, ↓reduceIte, reduceCtorEq, hdd, hlt, List.length_map, h2, hil, hx', hy', hy0, hty, hdp, wy1, wy2, hw1, hi1, Option.map_some, row_set, Int.toNat_natCast, ha, hy1', hp1, hqb1, ha, List.length_set, hlen2, hy2', hp2, hqb2, hb, hb0] <;> try simp (disch := omega) only [wrap_of])) | (refine And.intro ?_ ?_) | refine awp_skip ?_ | refine awp_ret ?_ | refine awp_exit ?_ | refine awp_label ?_ | refine awloop_step ?_ | fail)
                    refine ⟨(i + 1, (hs.set a d).set (i + 1) d), by simp only; omega, ⟨by simp only; omega, by simp [h2], (h3.set a hdb).set _ hdb, by simp only; rw [hd]; exact h5⟩, ?_⟩
                    refine Wk.keepE 1 1 (by simp) (by simp) (by intro o ho; rw [List.mem_singleton] at ho; subst ho; exact row_under) ?_
                    simp only [List.map_cons, List.map_nil, AV.low, Fgt, Nat.lt_add_one, if_true, true_or, or_true, and_true, true_and]
                  · have hqb2 : (y2 != d) = true := by simp [hq2]
                    rw [reachS_no hy2 (by omega)] at h5
                    simp only at h5
                    rw [h5]
                    repeat' (first | refine awp_seq ?_ | refine awp_block ?_ | refine awp_scope ?_ | ((first | refine awp_region_k fun Kn Kp hn hp => ?_ | refine oge_intro (by assumption) ?_ | (show AWE _ _ _ _ _ _ _ _ _; first | refine awe_intro (hins _) ?_ | refine awe_intro (htk _) ?_) | (show AWSF _ _ _ _ _ _ _ _ _ _ _; first | refine awsf_intro (hins _) (fun hrun => ?_) | refine awsf_intro (htk _) (fun hrun => ?_)) | (show OGE _ _ _ _ _ _ _; first | refine oge_intro (hins _) ?_ | refine oge_intro (htk _) ?_) | (show AWSE _ _ _ _ _ _ _ _ _ _ _; first | refine awse_intro (hins _) (fun hrun => ?_) | refine awse_intro (htk _) (fun hrun => ?_)) | (show PGE _ _ _ _ _; first | refine pge_intro (hins _) (fun tm' => ?_) | refine pge_intro (htk _) (fun tm' => ?_))) <;> (simp only [go_sem, Nat.reduceAdd, Nat.reduceSub, Nat.reduceMul, Nat.reduceLeDiff, Nat.reduceLT, Nat.reduceEqDiff, Int.reduceToNat, Int.reduceAdd, Int.reduceMul, Int.reduceSub, Int.reduceLT, Int.reduceLE, Int.reduceEq, Int.reduceNeg, Int.reduceBEq, Int.reduceBNe, ↓reduceIte, reduceCtorEq, hdd, hlt, List.length_map, h2, hil, hx', hy', hy0, hty, hdp, wy1, wy2, hw1, hi1, Option.map_some, row_set, Int.toNat_natCast, ha, hy1', hp1, hqb1, ha, List.length_set, hlen2, hy2', hp2, hqb2] <;> try simp (disch := omega) only [wrap_of])) | (refine hn _ _ ?_; clear hn hp Kn Kp) | (refine hp _ _ _ ?_; clear hn hp Kn Kp) | (refine awp_cond rfl (fun hb => ?_) (fun hb => ?_) <;> (try simp only [decide_eq_true_eq, decide_eq_false_iff_not, Bool.not_eq_true', Bool.not_eq_false', Bool.true_eq_false, Bool.false_eq_true, beq_iff_eq, bne_iff_ne, bne_eq_false_iff_eq, beq_eq_false_iff_ne, gt_iff_lt, ge_iff_le, Int.reduceEq, Int.reduceNe, Int.reduceLT, Int.reduceLE, ne_eq, not_true_eq_false, not_false_eq_true] at hb)) | ((first | refine awg_split (fun hb => ?_) (fun hb => ?_) | refine awsg_split (fun hb => ?_) (fun hb => ?_)) <;> have hb0 := hb <;> (try simp only [decide_eq_true_eq, decide_eq_false_iff_not, Bool.not_eq_true', Bool.not_eq_false', Bool.true_eq_false, Bool.false_eq_true, beq_iff_eq, bne_iff_ne, bne_eq_false_iff_eq, beq_eq_false_iff_ne, gt_iff_lt, ge_iff_le, Int.reduceEq, Int.reduceNe, Int.reduceLT, Int.reduceLE, ne_eq, not_true_eq_false, not_false_eq_true] at hb0) <;> (try simp only [beq_true, beq_false, Bool.not_eq_true', Bool.not_eq_false'] at hb) <;> (simp only [go_sem, Nat.reduceAdd, Nat.reduceSub, Nat.reduceMul, Nat.reduceLeDiff, Nat.reduceLT, Nat.reduceEqDiff, Int.reduceToNat, Int.reduceAdd, Int.reduceMul, Int.reduceSub, Int.reduceLT, Int.reduceLE, Int.reduceEq, Int.reduceNeg, Int.reduceBEq, Int.reduceBNe, ↓reduceIte, reduceCtorEq, hdd, hlt, List.length_map, h2, hil, hx', hy', hy0, hty, hdp, wy1, wy2, hw1, hi1, Option.map_some, row_set, Int.toNat_natCast, ha, hy1', hp1, hqb1, ha, List.length_set, hlen2, hy2', hp2, hqb2, hb, hb0] <;> try simp (disch := omega) only [wrap_of])) | (refine And.intro ?_ ?_) | refine awp_skip ?_ | refine awp_ret ?_ | refine awp_exit ?_ | refine awp_label ?_ | refine awloop_step ?_ | fail)
                    (refine resX ?_; try exact True.intro)
                · have hqb1 : (y1 != d) = true := by simp [hq1]
                  rw [reachS_no hy1 (by omega)] at h5
                  simp only at h5
                  rw [h5]
                  repeat' (first | refine awp_seq ?_ | refine awp_block ?_ | refine awp_scope ?_ | ((first | refine awp_region_k fun Kn Kp hn hp => ?_ | refine oge_intro (by assumption) ?_ | (show AWE _ _ _ _ _ _ _ _ _; first | refine awe_intro (hins _) ?_ | refine awe_intro (htk _) ?_) | (show AWSF _ _ _ _ _ _ _ _ _ _ _; first | refine awsf_intro (hins _) (fun hrun => ?_) | refine awsf_intro (htk _) (fun hrun => ?_)) | (show OGE _ _ _ _ _ _ _; first | refine oge_intro (hins _) ?_ | refine oge_intro (htk _) ?_) | (show AWSE _ _ _ _ _ _ _ _ _ _ _; first | refine awse_intro (hins _) (fun hrun => ?_) | refine awse_intro (htk _) (fun hrun => ?_)) | (show PGE _ _ _ _ _; first | refine pge_intro (hins _) (fun tm' => ?_) | refine pge_intro (htk _) (fun tm' => ?_))) <;> (simp only [go_sem, Nat.reduceAdd, Nat.reduceSub, Nat.reduceMul, Nat.reduceLeDiff, Nat.reduceLT, Nat.reduceEqDiff, Int.reduceToNat, Int.reduceAdd, Int.reduceMul, Int.reduceSub, Int.reduceLT, Int.reduceLE, Int.reduceEq, Int.reduceNeg, Int.reduceBEq, Int.reduceBNe, ↓reduceIte, reduceCtorEq, hdd, hlt, List.length_map, h2, hil, hx', hy', hy0, hty, hdp, wy1, wy2, hw1, hi1, Option.map_some, row_set, Int.toNat_natCast, ha, hy1', hp1, hqb1] <;> try simp (disch := omega) only [wrap_of])) | (refine hn _ _ ?_; clear hn hp Kn Kp) | (refine hp _ _ _ ?_; clear hn hp Kn Kp) | (refine awp_cond rfl (fun hb => ?_) (fun hb => ?_) <;> (try simp only [decide_eq_true_eq, decide_eq_false_iff_not, Bool.not_eq_true', Bool.not_eq_false', Bool.true_eq_false, Bool.false_eq_true, beq_iff_eq, bne_iff_ne, bne_eq_false_iff_eq, beq_eq_false_iff_ne, gt_iff_lt, ge_iff_le, Int.reduceEq, Int.reduceNe, Int.reduceLT, Int.reduceLE, ne_eq, not_true_eq_false, not_false_eq_true] at hb)) | ((first | refine awg_split (fun hb => ?_) (fun hb => ?_) | refine awsg_split (fun hb => ?_) (fun hb => ?_)) <;> have hb0 := hb <;> (try simp only [decide_eq_true_eq, decide_eq_false_iff_not, Bool.not_eq_true', Bool.not_eq_false', Bool.true_eq_false, Bool.false_eq_true, beq_iff_eq, bne_iff_ne, bne_eq_false_iff_eq, beq_eq_false_iff_ne, gt_iff_lt, ge_iff_le, Int.reduceEq, Int.reduceNe, Int.reduceLT, Int.reduceLE, ne_eq, not_true_eq_false, not_false_eq_true] at hb0) <;> (try simp only [beq_true, beq_false, Bool.not_eq_true', Bool.not_eq_false'] at hb) <;> (simp only [go_sem, Nat.reduceAdd, Nat.reduceSub, Nat.reduceMul, Nat.reduceLeDiff, Nat.reduceLT, Nat.reduceEqDiff, Int.reduceToNat, Int.reduceAdd, Int.reduceMul, Int.reduceSub, Int.reduceLT, Int.reduceLE, Int.reduceEq, Int.reduceNeg, Int.reduceBEq, Int.reduceBNe, ↓reduceIte, reduceCtorEq, hdd, hlt, List.length_map, h2, hil, hx', hy', hy0, hty, hdp, wy1, wy2, hw1, hi1, Option.map_some, row_set, Int.toNat_natCast, ha, hy1', hp1, hqb1, hb, hb0] <;> try simp (disch := omega) only [wrap_of])) | (refine And.intro ?_ ?_) | refine awp_skip ?_ | refine awp_ret ?_ | refine awp_exit ?_ | refine awp_label ?_ | refine awloop_step ?_ | fail)
                  (refine resX ?_; try exact True.intro)
              by_cases h13 : op = 13
              · subst h13
                obtain ⟨a, rfl⟩ : ∃ a : Nat, nn = a := ⟨nn.toNat, by omega⟩
                have ha : (a : Int) < (l.length + 1 : Nat) := by omega
                rw [g13 rfl, Int.toNat_natCast] at h5
                obtain ⟨y1, hy1⟩ := get_some (hs := hs) (i := a) (by simp only [h2]; omega)
                have yb1 := h3.get hy1
                have hy1' : ((hs).map fun v => [AV.i v])[a]? = some [AV.i y1] := by rw [List.getElem?_map, hy1]; rfl
                by_cases hn1 : y1 < 0
                · have hm1 : ¬ 0 ≤ y1 := by omega
                  rw [reachS_ok hy1 (.inl (by omega))] at h5
                  simp only at h5
                  repeat' (first | refine awp_seq ?_ | refine awp_block ?_ | refine awp_scope ?_ | ((first | refine awp_region_k fun Kn Kp hn hp => ?_ | refine oge_intro (by assumption) ?_ | (show AWE _ _ _ _ _ _ _ _ _; first | refine awe_intro (hins _) ?_ | refine awe_intro (htk _) ?_) | (show AWSF _ _ _ _ _ _ _ _ _ _ _; first | refine awsf_intro (hins _) (fun hrun => ?_) | refine awsf_intro (htk _) (fun hrun => ?_)) | (show OGE _ _ _ _ _ _ _; first | refine oge_intro (hins _) ?_ | refine oge_intro (htk _) ?_) | (show AWSE _ _ _ _ _ _ _ _ _ _ _; first | refine awse_intro (hins _) (fun hrun => ?_) | refine awse_intro (htk _) (fun hrun => ?_)) | (show PGE _ _ _ _ _; first | refine pge_intro (hins _) (fun tm' => ?_) | refine pge_intro (htk _) (fun tm' => ?_))) <;> (simp only [go_sem, Nat.reduceAdd, Nat.reduceSub, Nat.reduceMul, Nat.reduceLeDiff, Nat.reduceLT, Nat.reduceEqDiff, Int.reduceToNat, Int.reduceAdd, Int.reduceMul, Int.reduceSub, Int.reduceLT, Int.reduceLE, Int.reduceEq, Int.reduceNeg, Int.reduceBEq, Int.reduceBNe, ↓reduceIte, reduceCtorEq, hdd, hlt, List.length_map, h2, hil, hx', hy', hy0, hty, hdp, wy1, wy2, hw1, hi1, Option.map_some, row_set, Int.toNat_natCast, ha, hy1', hm1] <;> try simp (disch := omega) only [wrap_of])) | (refine hn _ _ ?_; clear hn hp Kn Kp) | (refine hp _ _ _ ?_; clear hn hp Kn Kp) | (refine awp_cond rfl (fun hb => ?_) (fun hb => ?_) <;> (try simp only [decide_eq_true_eq, decide_eq_false_iff_not, Bool.not_eq_true', Bool.not_eq_false', Bool.true_eq_false, Bool.false_eq_true, beq_iff_eq, bne_iff_ne, bne_eq_false_iff_eq, beq_eq_false_iff_ne, gt_iff_lt, ge_iff_le, Int.reduceEq, Int.reduceNe, Int.reduceLT, Int.reduceLE, ne_eq, not_true_eq_false, not_false_eq_true] at hb)) | ((first | refine awg_split (fun hb => ?_) (fun hb => ?_) | refine awsg_split (fun hb => ?_) (fun hb => ?_)) <;> have hb0 := hb <;> (try simp only [decide_eq_true_eq, decide_eq_false_iff_not, Bool.not_eq_true', Bool.not_eq_false', Bool.true_eq_false, Bool.false_eq_true, beq_iff_eq, bne_iff_ne, bne_eq_false_iff_eq, beq_eq_false_iff_ne, gt_iff_lt, ge_iff_le, Int.reduceEq, Int.reduceNe, Int.reduceLT, Int.reduceLE, ne_eq, not_true_eq_false, not_false_eq_true] at hb0) <;> (try simp only [beq_true, beq_false, Bool.not_eq_true', Bool.not_eq_false'] at hb) <;> (simp only [go_sem, Nat.reduceAdd, Nat.reduceSub, Nat.reduceMul, Nat.reduceLeDiff, Nat.reduceLT, Nat.reduceEqDiff, Int.reduceToNat, Int.reduceAdd, Int.reduceMul, Int.reduceSub, Int.reduceLT, Int.reduceLE, Int.reduceEq, Int.reduceNeg, Int.reduceBEq, Int.reduceBNe, ↓reduceIte, reduceCtorEq, hdd, hlt, List.length_map, h2, hil, hx', hy', hy0, hty, hdp, wy1, wy2, hw1, hi1, Option.map_some, row_set, Int.toNat_natCast, ha, hy1', hm1, hb, hb0] <;> try simp (disch := omega) only [wrap_of])) | (refine And.intro ?_ ?_) | refine awp_skip ?_ | refine awp_ret ?_ | refine awp_exit ?_ | refine awp_label ?_ | refine awloop_step ?_ | fail)
                  refine ⟨(i + 1, hs.set a d), by simp only; omega, ⟨by simp only; omega, by simp [h2], h3.set a hdb, by simp only; rw [hd]; exact h5⟩, ?_⟩
                  refine Wk.keepE 1 1 (by simp) (by simp) (by intro o ho; rw [List.mem_singleton] at ho; subst ho; exact row_under) ?_
                  simp only [List.map_cons, List.map_nil, AV.low, Fgt, Nat.lt_add_one, if_true, true_or, or_true, and_true, true_and]
                have hp1 : 0 ≤ y1 := by omega
                by_cases hq1 : y1 = d
                · have hqb1 : (y1 != d) = false := by simp [hq1]
                  rw [reachS_ok hy1 (.inr hq1)] at h5
                  simp only at h5
                  repeat' (first | refine awp_seq ?_ | refine awp_block ?_ | refine awp_scope ?_ | ((first | refine awp_region_k fun Kn Kp hn hp => ?_ | refine oge_intro (by assumption) ?_ | (show AWE _ _ _ _ _ _ _ _ _; first | refine awe_intro (hins _) ?_ | refine awe_intro (htk _) ?_) | (show AWSF _ _ _ _ _ _ _ _ _ _ _; first | refine awsf_intro (hins _) (fun hrun => ?_) | refine awsf_intro (htk _) (fun hrun => ?_)) | (show OGE _ _ _ _ _ _ _; first | refine oge_intro (hins _) ?_ | refine oge_intro (htk _) ?_) | (show AWSE _ _ _ _ _ _ _ _ _ _ _; first | refine awse_intro (hins _) (fun hrun => ?_) | refine awse_intro (htk _) (fun hrun => ?_)) | (show PGE _ _ _ _ _; first | refine pge_intro (hins _) (fun tm' => ?_) | refine pge_intro (htk _) (fun tm' => ?_))) <;> (simp only [go_sem, Nat.reduceAdd, Nat.reduceSub, Nat.reduceMul, Nat.reduceLeDiff, Nat.reduceLT, Nat.reduceEqDiff, Int.reduceToNat, Int.reduceAdd, Int.reduceMul, Int.reduceSub, Int.reduceLT, Int.reduceLE, Int.reduceEq, Int.reduceNeg, Int.reduceBEq, Int.reduceBNe, ↓reduceIte, reduceCtorEq, hdd, hlt, List.length_map, h2, hil, hx', hy', hy0, hty, hdp, wy1, wy2, hw1, hi1, Option.map_some, row_set, Int.toNat_natCast, ha, hy1', hp1, hqb1] <;> try simp (disch := omega) only [wrap_of])) | (refine hn _ _ ?_; clear hn hp Kn Kp) | (refine hp _ _ _ ?_; clear hn hp Kn Kp) | (refine awp_cond rfl (fun hb => ?_) (fun hb => ?_) <;> (try simp only [decide_eq_true_eq, decide_eq_false_iff_not, Bool.not_eq_true', Bool.not_eq_false', Bool.true_eq_false, Bool.false_eq_true, beq_iff_eq, bne_iff_ne, bne_eq_false_iff_eq, beq_eq_false_iff_ne, gt_iff_lt, ge_iff_le, Int.reduceEq, Int.reduceNe, Int.reduceLT, Int.reduceLE, ne_eq, not_true_eq_false, not_false_eq_true] at hb)) | ((first | refine awg_split (fun hb => ?_) (fun hb => ?_) | refine awsg_split (fun hb => ?_) (fun hb => ?_)) <;> have hb0 := hb <;> (try simp only [decide_eq_true_eq, decide_eq_false_iff_not, Bool.not_eq_true', Bool.not_eq_false', Bool.true_eq_false, Bool.false_eq_true, beq_iff_eq, bne_iff_ne, bne_eq_false_iff_eq, beq_eq_false_iff_ne, gt_iff_lt, ge_iff_le, Int.reduceEq, Int.reduceNe, Int.reduceLT, Int.reduceLE, ne_eq, not_true_eq_false, not_false_eq_true] at hb0) <;> (try simp only [beq_true, beq_false, Bool.not_eq_true', Bool.not_eq_false'] at hb) <;> (simp only [go_sem, Nat.reduceAdd, Nat.reduceSub, Nat.reduceMul, Nat.reduceLeDiff, Nat.reduceLT, Nat.reduceEqDiff, Int.reduceToNat, Int.reduceAdd, Int.reduceMul, Int.reduceSub, Int.reduceLT, Int.reduceLE, Int.reduceEq, Int.reduceNeg, Int.reduceBEq, Int.reduceBNe, ↓reduceIte, reduceCtorEq, hdd, hlt, List.length_map, h2, hil, hx', hy', hy0, hty, hdp, wy1, wy2, hw1, hi1, Option.map_some, row_set, Int.toNat_natCast, ha, hy1', hp1, hqb1, hb, hb0] <;> try simp (disch := omega) only [wrap_of])) | (refine And.intro ?_ ?_) | refine awp_skip ?_ | refine awp_ret ?_ | refine awp_exit ?_ | refine awp_label ?_ | refine awloop_step ?_ | fail)
                  refine ⟨(i + 1, hs.set a d), by simp only; omega, ⟨by simp only; omega, by simp [h2], h3.set a hdb, by simp only; rw [hd]; exact h5⟩, ?_⟩
                  refine Wk.keepE 1 1 (by simp) (by simp) (by intro o ho; rw [List.mem_singleton] at ho; subst ho; exact row_under) ?_
                  simp only [List.map_cons, List.map_nil, AV.low, Fgt, Nat.lt_add_one, if_true, true_or, or_true, and_true, true_and]
                · have hqb1 : (y1 != d) = true := by simp [hq1]
                  rw [reachS_no hy1 (by omega)] at h5
                  simp only at h5
                  rw [h5]
                  repeat' (first | refine awp_seq ?_ | refine awp_block ?_ | refine awp_scope ?_ | ((first | refine awp_region_k fun Kn Kp hn hp => ?_ | refine oge_intro (by assumption) ?_ | (show AWE _ _ _ _ _ _ _ _ _; first | refine awe_intro (hins _) ?_ | refine awe_intro (htk _) ?_) | (show AWSF _ _ _ _ _ _ _ _ _ _ _; first | refine awsf_intro (hins _) (fun hrun => ?_) | refine awsf_intro (htk _) (fun hrun => ?_)) | (show OGE _ _ _ _ _ _ _; first | refine oge_intro (hins _) ?_ | refine oge_intro (htk _) ?_) | (show AWSE _ _ _ _ _ _ _ _ _ _ _; first | refine awse_intro (hins _) (fun hrun => ?_) | refine awse_intro (htk _) (fun hrun => ?_)) | (show PGE _ _ _ _ _; first | refine pge_intro (hins _) (fun tm' => ?_) | refine pge_intro (htk _) (fun tm' => ?_))) <;> (simp only [go_sem, Nat.reduceAdd, Nat.reduceSub, Nat.reduceMul, Nat.reduceLeDiff, Nat.reduceLT, Nat.reduceEqDiff, Int.reduceToNat, Int.reduceAdd, Int.reduceMul, Int.reduceSub, Int.reduceLT, Int.reduceLE, Int.reduceEq, Int.reduceNeg, Int.reduceBEq, Int.reduceBNe, ↓reduceIte, reduceCtorEq, hdd, hlt, List.length_map, h2, hil, hx', hy', hy0, hty, hdp, wy1, wy2, hw1, hi1, Option.map_some, row_set, Int.toNat_natCast, ha, hy1', hp1, hqb1] <;> try simp (disch := omega) only [wrap_of])) | (refine hn _ _ ?_; clear hn hp Kn Kp) | (refine hp _ _ _ ?_; clear hn hp Kn Kp) | (refine awp_cond rfl (fun hb => ?_) (fun hb => ?_) <;> (try simp only [decide_eq_true_eq, decide_eq_false_iff_not, Bool.not_eq_true', Bool.not_eq_false', Bool.true_eq_false, Bool.false_eq_true, beq_iff_eq, bne_iff_ne, bne_eq_false_iff_eq, beq_eq_false_iff_ne, gt_iff_lt, ge_iff_le, Int.reduceEq, Int.reduceNe, Int.reduceLT, Int.reduceLE, ne_eq, not_true_eq_false, not_false_eq_true] at hb)) | ((first | refine awg_split (fun hb => ?_) (fun hb => ?_) | refine awsg_split (fun hb => ?_) (fun hb => ?_)) <;> have hb0 := hb <;> (try simp only [decide_eq_true_eq, decide_eq_false_iff_not, Bool.not_eq_true', Bool.not_eq_false', Bool.true_eq_false, Bool.false_eq_true, beq_iff_eq, bne_iff_ne, bne_eq_false_iff_eq, beq_eq_false_iff_ne, gt_iff_lt, ge_iff_le, Int.reduceEq, Int.reduceNe, Int.reduceLT, Int.reduceLE, ne_eq, not_true_eq_false, not_false_eq_true] at hb0) <;> (try simp only [beq_true, beq_false, Bool.not_eq_true', Bool.not_eq_false'] at hb) <;> (simp only [go_sem, Nat.reduceAdd, Nat.reduceSub, Nat.reduceMul, Nat.reduceLeDiff, Nat.reduceLT, Nat.reduceEqDiff, Int.reduceToNat, Int.reduceAdd, Int.reduceMul, Int.reduceSub, Int.reduceLT, Int.reduceLE, Int.reduceEq, Int.reduceNeg, Int.reduceBEq, Int.reduceBNe, ↓reduceIte, reduceCtorEq, hdd, hlt, List.length_map, h2, hil, hx', hy', hy0, hty, hdp, wy1, wy2, hw1, hi1, Option.map_some, row_set, Int.toNat_natCast, ha, hy1', hp1, hqb1, hb, hb0] <;> try simp (disch := omega) only [wrap_of])) | (refine And.intro ?_ ?_) | refine awp_skip ?_ | refine awp_ret ?_ | refine awp_exit ?_ | refine awp_label ?_ | refine awloop_step ?_ | fail)
                  (refine resX ?_; try exact True.intro)
              have e12 : (op == 12) = false := by simpa using h12
              have e13 : (op == 13) = false := by simpa using h13
              have ne13 : (op != 13) = true := by simpa using h13
              rw [ggo h12 h13] at h5
              obtain ⟨y1, hy1⟩ := get_some (hs := hs) (i := i + 1) (by simp only [h2]; omega)
              have yb1 := h3.get hy1
              have hy1' : ((hs).map fun v => [AV.i v])[i + 1]? = some [AV.i y1] := by rw [List.getElem?_map, hy1]; rfl
              by_cases hn1 : y1 < 0
              · have hm1 : ¬ 0 ≤ y1 := by omega
                rw [reachS_ok hy1 (.inl (by omega))] at h5
                simp only at h5
                repeat' (first | refine awp_seq ?_ | refine awp_block ?_ | refine awp_scope ?_ | ((first | refine awp_region_k fun Kn Kp hn hp => ?_ | refine oge_intro (by assumption) ?_ | (show AWE _ _ _ _ _ _ _ _ _; first | refine awe_intro (hins _) ?_ | refine awe_intro (htk _) ?_) | (show AWSF _ _ _ _ _ _ _ _ _ _ _; first | refine awsf_intro (hins _) (fun hrun => ?_) | refine awsf_intro (htk _) (fun hrun => ?_)) | (show OGE _ _ _ _ _ _ _; first | refine oge_intro (hins _) ?_ | refine oge_intro (htk _) ?_) | (show AWSE _ _ _ _ _ _ _ _ _ _ _; first | refine awse_intro (hins _) (fun hrun => ?_) | refine awse_intro (htk _) (fun hrun => ?_)) | (show PGE _ _ _ _ _; first | refine pge_intro (hins _) (fun tm' => ?_) | refine pge_intro (htk _) (fun tm' => ?_))) <;> (simp only [go_sem, Nat.reduceAdd, Nat.reduceSub, Nat.reduceMul, Nat.reduceLeDiff, Nat.reduceLT, Nat.reduceEqDiff, Int.reduceToNat, Int.reduceAdd, Int.reduceMul, Int.reduceSub, Int.reduceLT, Int.reduceLE, Int.reduceEq, Int.reduceNeg, Int.reduceBEq, Int.reduceBNe, ↓reduceIte, reduceCtorEq, hdd, hlt, List.length_map, h2, hil, hx', hy', hy0, hty, hdp, wy1, wy2, hw1, hi1, Option.map_some, row_set, Int.toNat_natCast, e12, e13, ne13, hy1', hm1] <;> try simp (disch := omega) only [wrap_of])) | (refine hn _ _ ?_; clear hn hp Kn Kp) | (refine hp _ _ _ ?_; clear hn hp Kn Kp) | (refine awp_cond rfl (fun hb => ?_) (fun hb => ?_) <;> (try simp only [decide_eq_true_eq, decide_eq_false_iff_not, Bool.not_eq_true', Bool.not_eq_false', Bool.true_eq_false, Bool.false_eq_true, beq_iff_eq, bne_iff_ne, bne_eq_false_iff_eq, beq_eq_false_iff_ne, gt_iff_lt, ge_iff_le, Int.reduceEq, Int.reduceNe, Int.reduceLT, Int.reduceLE, ne_eq, not_true_eq_false, not_false_eq_true] at hb)) | ((first | refine awg_split (fun hb => ?_) (fun hb => ?_) | refine awsg_split (fun hb => ?_) (fun hb => ?_)) <;> have hb0 := hb <;> (try simp only [decide_eq_true_eq, decide_eq_false_iff_not, Bool.not_eq_true', Bool.not_eq_false', Bool.true_eq_false, Bool.false_eq_true, beq_iff_eq, bne_iff_ne, bne_eq_false_iff_eq, beq_eq_false_iff_ne, gt_iff_lt, ge_iff_le, Int.reduceEq, Int.reduceNe, Int.reduceLT, Int.reduceLE, ne_eq, not_true_eq_false, not_false_eq_true] at hb0) <;> (try simp only [beq_true, beq_false, Bool.not_eq_true', Bool.not_eq_false'] at hb) <;> (simp only [go_sem, Nat.reduceAdd, Nat.reduceSub, Nat.reduceMul, Nat.reduceLeDiff, Nat.reduceLT, Nat.reduceEqDiff, Int.reduceToNat, Int.reduceAdd, Int.reduceMul, Int.reduceSub, Int.reduceLT, Int.reduceLE, Int.reduceEq, Int.reduceNeg, Int.reduceBEq, Int.reduceBNe, ↓reduceIte, reduceCtorEq, hdd, hlt, List.length_map, h2, hil, hx', hy', hy0, hty, hdp, wy1, wy2, hw1, hi1, Option.map_some, row_set, Int.toNat_natCast, e12, e13, ne13, hy1', hm1, hb, hb0] <;> try simp (disch := omega) only [wrap_of])) | (refine And.intro ?_ ?_) | refine awp_skip ?_ | refine awp_ret ?_ | refine awp_exit ?_ | refine awp_label ?_ | refine awloop_step ?_ | fail)
                refine ⟨(i + 1, hs.set (i + 1) d), by simp only; omega, ⟨by simp only; omega, by simp [h2], h3.set _ hdb, by simp only; rw [hd]; exact h5⟩, ?_⟩
                refine Wk.keepE 1 1 (by simp) (by simp) (by intro o ho; rw [List.mem_singleton] at ho; subst ho; exact row_under) ?_
                simp only [List.map_cons, List.map_nil, AV.low, Fgt, Nat.lt_add_one, if_true, true_or, or_true, and_true, true_and]
              have hp1 : 0 ≤ y1 := by omega
              by_cases hq1 : y1 = d
              · have hqb1 : (y1 != d) = false := by simp [hq1]
                rw [reachS_ok hy1 (.inr hq1)] at h5
                simp only at h5
                repeat' (first | refine awp_seq ?_ | refine awp_block ?_ | refine awp_scope ?_ | ((first | refine awp_region_k fun Kn Kp hn hp => ?_ | refine oge_intro (by assumption) ?_ | (show AWE _ _ _ _ _ _ _ _ _; first | refine awe_intro (hins _) ?_ | refine awe_intro (htk _) ?_) | (show AWSF _ _ _ _ _ _ _ _ _ _ _; first | refine awsf_intro (hins _) (fun hrun => ?_) | refine awsf_intro (htk _) (fun hrun => ?_)) | (show OGE _ _ _ _ _ _ _; first | refine oge_intro (hins _) ?_ | refine oge_intro (htk _) ?_) | (show AWSE _ _ _ _ _ _ _ _ _ _ _; first | refine awse_intro (hins _) (fun hrun => ?_) | refine awse_intro (htk _) (fun hrun => ?_)) | (show PGE _ _ _ _ _; first | refine pge_intro (hins _) (fun tm' => ?_) | refine pge_intro (htk _) (fun tm' => ?_))) <;> (simp only [go_sem, Nat.reduceAdd, Nat.reduceSub, Nat.reduceMul, Nat.reduceLeDiff, Nat.reduceLT, Nat.reduceEqDiff, Int.reduceToNat, Int.reduceAdd, Int.reduceMul, Int.reduceSub, Int.reduceLT, Int.reduceLE, Int.reduceEq, Int.reduceNeg, Int.reduceBEq, Int.reduceBNe, ↓reduceIte, reduceCtorEq, hdd, hlt, List.length_map, h2, hil, hx', hy', hy0, hty, hdp, wy1, wy2, hw1, hi1, Option.map_some, row_set, Int.toNat_natCast, e12, e13, ne13, hy1', hp1, hqb1] <;> try simp (disch := omega) only [wrap_of])) | (refine hn _ _ ?_; clear hn hp Kn Kp) | (refine hp _ _ _ ?_; clear hn hp Kn Kp) | (refine awp_cond rfl (fun hb => ?_) (fun hb => ?_) <;> (try simp only [decide_eq_true_eq, decide_eq_false_iff_not, Bool.not_eq_true', Bool.not_eq_false', Bool.true_eq_false, Bool.false_eq_true, beq_iff_eq, bne_iff_ne, bne_eq_false_iff_eq, beq_eq_false_iff_ne, gt_iff_lt, ge_iff_le, Int.reduceEq, Int.reduceNe, Int.reduceLT, Int.reduceLE, ne_eq, not_true_eq_false, not_false_eq_true] at hb)) | ((first | refine awg_split (fun hb => ?_) (fun hb => ?_) | refine awsg_split (fun hb => ?_) (fun hb => ?_)) <;> have hb0 := hb <;> (try simp only [decide_eq_true_eq, decide_eq_false_iff_not, Bool.not_eq_true', Bool.not_eq_false', Bool.true_eq_false, Bool.false_eq_true, beq_iff_eq, bne_iff_ne, bne_eq_false_iff_eq, beq_eq_false_iff_ne, gt_iff_lt, ge_iff_le, Int.reduceEq, Int.reduceNe, Int.reduceLT, Int.reduceLE, ne_eq, not_true_eq_false, not_false_eq_true] at hb0) <;> (try simp only [beq_true, beq_false, Bool.not_eq_true', Bool.not_eq_false'] at hb) <;> (simp only [go_sem, Nat.reduceAdd, Nat.reduceSub, Nat.reduceMul, Nat.reduceLeDiff, Nat.reduceLT, Nat.reduceEqDiff, Int.reduceToNat, Int.reduceAdd, Int.reduceMul, Int.reduceSub, Int.reduceLT, Int.reduceLE, Int.reduceEq, Int.reduceNeg, Int.reduceBEq, Int.reduceBNe, ↓reduceIte, reduceCtorEq, hdd, hlt, List.length_map, h2, hil, hx', hy', hy0, hty, hdp, wy1, wy2, hw1, hi1, Option.map_some, row_set, Int.toNat_natCast, e12, e13, ne13, hy1', hp1, hqb1, hb, hb0] <;> try simp (disch := omega) only [wrap_of])) | (refine And.intro ?_ ?_) | refine awp_skip ?_ | refine awp_ret ?_ | refine awp_exit ?_ | refine awp_label ?_ | refine awloop_step ?_ | fail)
                refine ⟨(i + 1, hs.set (i + 1) d), by simp only; omega, ⟨by simp only; omega, by simp [h2], h3.set _ hdb, by simp only; rw [hd]; exact h5⟩, ?_⟩
                refine Wk.keepE 1 1 (by simp) (by simp) (by intro o ho; rw [List.mem_singleton] at ho; subst ho; exact row_under) ?_
                simp only [List.map_cons, List.map_nil, AV.low, Fgt, Nat.lt_add_one, if_true, true_or, or_true, and_true, true_and]
              · have hqb1 : (y1 != d) = true := by simp [hq1]
                rw [reachS_no hy1 (by omega)] at h5
                simp only at h5
                rw [h5]
                repeat' (first | refine awp_seq ?_ | refine awp_block ?_ | refine awp_scope ?_ | ((first | refine awp_region_k fun Kn Kp hn hp => ?_ | refine oge_intro (by assumption) ?_ | (show AWE _ _ _ _ _ _ _ _ _; first | refine awe_intro (hins _) ?_ | refine awe_intro (htk _) ?_) | (show AWSF _ _ _ _ _ _ _ _ _ _ _; first | refine awsf_intro (hins _) (fun hrun => ?_) | refine awsf_intro (htk _) (fun hrun => ?_)) | (show OGE _ _ _ _ _ _ _; first | refine oge_intro (hins _) ?_ | refine oge_intro (htk _) ?_) | (show AWSE _ _ _ _ _ _ _ _ _ _ _; first | refine awse_intro (hins _) (fun hrun => ?_) | refine awse_intro (htk _) (fun hrun => ?_)) | (show PGE _ _ _ _ _; first | refine pge_intro (hins _) (fun tm' => ?_) | refine pge_intro (htk _) (fun tm' => ?_))) <;> (simp only [go_sem, Nat.reduceAdd, Nat.reduceSub, Nat.reduceMul, Nat.reduceLeDiff, Nat.reduceLT, Nat.reduceEqDiff, Int.reduceToNat, Int.reduceAdd, Int.reduceMul, Int.reduceSub, Int.reduceLT, Int.reduceLE, Int.reduceEq, Int.reduceNeg, Int.reduceBEq, Int.reduceBNe, ↓reduceIte, reduceCtorEq, hdd, hlt, List.length_map, h2, hil, hx', hy', hy0, hty, hdp, wy1, wy2, hw1, hi1, Option.map_some, row_set, Int.toNat_natCast, e12, e13, ne13, hy1', hp1, hqb1] <;> try simp (disch := omega) only [wrap_of])) | (refine hn _ _ ?_; clear hn hp Kn Kp) | (refine hp _ _ _ ?_; clear hn hp Kn Kp) | (refine awp_cond rfl (fun hb => ?_) (fun hb => ?_) <;> (try simp only [decide_eq_true_eq, decide_eq_false_iff_not, Bool.not_eq_true', Bool.not_eq_false', Bool.true_eq_false, Bool.false_eq_true, beq_iff_eq, bne_iff_ne, bne_eq_false_iff_eq, beq_eq_false_iff_ne, gt_iff_lt, ge_iff_le, Int.reduceEq, Int.reduceNe, Int.reduceLT, Int.reduceLE, ne_eq, not_true_eq_false, not_false_eq_true] at hb)) | ((first | refine awg_split (fun hb => ?_) (fun hb => ?_) | refine awsg_split (fun hb => ?_) (fun hb => ?_)) <;> have hb0 := hb <;> (try simp only [decide_eq_true_eq, decide_eq_false_iff_not, Bool.not_eq_true', Bool.not_eq_false', Bool.true_eq_false, Bool.false_eq_true, beq_iff_eq, bne_iff_ne, bne_eq_false_iff_eq, beq_eq_false_iff_ne, gt_iff_lt, ge_iff_le, Int.reduceEq, Int.reduceNe, Int.reduceLT, Int.reduceLE, ne_eq, not_true_eq_false, not_false_eq_true] at hb0) <;> (try simp only [beq_true, beq_false, Bool.not_eq_true', Bool.not_eq_false'] at hb) <;> (simp only [go_sem, Nat.reduceAdd, Nat.reduceSub, Nat.reduceMul, Nat.reduceLeDiff, Nat.reduceLT, Nat.reduceEqDiff, Int.reduceToNat, Int.reduceAdd, Int.reduceMul, Int.reduceSub, Int.reduceLT, Int.reduceLE, Int.reduceEq, Int.reduceNeg, Int.reduceBEq, Int.reduceBNe, ↓reduceIte, reduceCtorEq, hdd, hlt, List.length_map, h2, hil, hx', hy', hy0, hty, hdp, wy1, wy2, hw1, hi1, Option.map_some, row_set, Int.toNat_natCast, e12, e13, ne13, hy1', hp1, hqb1, hb, hb0] <;> try simp (disch := omega) only [wrap_of])) | (refine And.intro ?_ ?_) | refine awp_skip ?_ | refine awp_ret ?_ | refine awp_exit ?_ | refine awp_label ?_ | refine awloop_step ?_ | fail)
                (refine resX ?_; try exact True.intro)
      · have hkl : (k : Int) ≤ l.length := by omega
        have hki : (k : Int) < (l.length + 1 : Nat) := by omega
        have hw : IntKind.i64.wrap ((k : Int) + 1) = ((k + 1 : Nat) : Int) := by rw [wrap_of (by omega) (by omega)]; omega
        have hlen : ((0 :: List.replicate l.length (-1 : Int)).take k ++ (List.replicate (l.length + 1) (0 : Int)).drop k).length = l.length + 1 := by simp; omega
        have hfill := fill_step (A := 0 :: List.replicate l.length (-1 : Int)) (B := List.replicate (l.length + 1) (0 : Int)) (by simp) (k := k) (x := -1) (by obtain ⟨j, rfl⟩ : ∃ j, k = j + 1 := ⟨k - 1, by omega⟩; rw [List.getElem?_cons_succ, List.getElem?_replicate, if_pos (by omega)])
        generalize hg : (0 :: List.replicate l.length (-1 : Int)).take k ++ (List.replicate (l.length + 1) (0 : Int)).drop k = row at *
        obtain ⟨z, hz⟩ := get_some (hs := row) (i := k) (by omega)
        have hz' : (row.map fun v => [AV.i v])[k]? = some [AV.i z] := by rw [List.getElem?_map, hz]; rfl
        (have ww1 := hkl; have ww2 := hki; have ww3 := hw; have ww4 := hlen; have ww5 := hz'; have ww6 := @row_set; refine wk ?_; clear ww1 ww2 ww3 ww4 ww5 ww6; (repeat' first | exact True.intro | refine Lf.mk ?_ ?_); all_goals intro hP)
        refine ⟨k + 1, by omega, ⟨by omega, by omega⟩, ?_⟩
        refine Wk.fgtE ?_ (by (refine fgX ?_; try exact True.intro))
        rw [← hfill]
end Go.Proofs.Ytiifbdkedainnaa.Y

set_option maxHeartbeats 8000000
set_option maxRecDepth 20000
set_option linter.unusedVariables false
set_option linter.unusedSimpArgs false
set_option linter.unusedSectionVars false
namespace Go.Proofs.Ytiifbdkedainnaa.Y
open Go.Proofs.Ytiifbdkedainnaa.AL Go.Proofs Go
attribute [local irreducible] AWP AWL AWG AWR AWE AWX AWO AWSeq AWSG AWSR AWSO AWSE AWSF GoodP OGW OGR OGE OGX PGW PGR PGE Wk AWLoop AWPD AWLD

abbrev agC (c : Cod) : AV := .agg [.rs 3 (c.c0.map encI), .rs 3 (c.c1.map encI), .rs 3 (c.c2.map encI), .rs 3 (c.c3.map encI), .rs 3 (c.c4.map encI)]
structure CodFine (c : Cod) : Prop where
  l0 : c.c0.length ≤ 2000000
  l1 : c.c1.length ≤ 2000000
  l2 : c.c2.length ≤ 2000000
  l3 : c.c3.length ≤ 2000000
  l4 : c.c4.length ≤ 2000000
theorem RVerify_run (c : Cod) (vars : Int) (hf : CodFine c) (H0 : List AObj) :
    ARun Try.prog 17 [agC c, .i vars] H0 (.ret (.b (verC c vars)) H0) := by
  by_cases h0 : vars < 0
  · have h0' : ¬ 0 ≤ vars := by omega
    (refine ARun.intro Try.func17 rfl Try.call17 Try.ntmps17 Try.results17 ?_; simp only [List.length_cons, List.length_nil, List.length_map, Nat.reduceAdd, Nat.reduceSub, List.replicate_succ, List.replicate_zero, List.cons_append, List.nil_append])
    (have ww1 := h0; refine wk ?_; clear ww1; (repeat' first | exact True.intro | refine Lf.mk ?_ ?_); all_goals intro hP)
    (refine resX ?_; try exact True.intro)
    all_goals simp [verC, h0']
  by_cases h12 : 12 < vars
  · have h12' : ¬ vars ≤ 12 := by omega
    (refine ARun.intro Try.func17 rfl Try.call17 Try.ntmps17 Try.results17 ?_; simp only [List.length_cons, List.length_nil, List.length_map, Nat.reduceAdd, Nat.reduceSub, List.replicate_succ, List.replicate_zero, List.cons_append, List.nil_append])
    (have ww1 := h0; have ww2 := h12; refine wk ?_; clear ww1 ww2; (repeat' first | exact True.intro | refine Lf.mk ?_ ?_); all_goals intro hP)
    (refine resX ?_; try exact True.intro)
    all_goals simp [verC, h12']
  have hv : 0 ≤ vars ∧ vars ≤ 12 := by omega
  have g0 := fun H0 => RHandler9_run c.c0 vars hv hf.l0 H0
  have g1 := fun H0 => RHandler9_run c.c1 vars hv hf.l1 H0
  have g2 := fun H0 => RHandler9_run c.c2 vars hv hf.l2 H0
  have g3 := fun H0 => RHandler9_run c.c3 vars hv hf.l3 H0
  have g4 := fun H0 => RHandler9_run c.c4 vars hv hf.l4 H0
  cases b0 : verH c.c0 vars with
  | false =>
    simp only [b0] at g0
    (refine ARun.intro Try.func17 rfl Try.call17 Try.ntmps17 Try.results17 ?_; simp only [List.length_cons, List.length_nil, List.length_map, Nat.reduceAdd, Nat.reduceSub, List.replicate_succ, List.replicate_zero, List.cons_append, List.nil_append])
    (have ww1 := h0; have ww2 := h12; refine wk ?_; clear ww1 ww2; (repeat' first | exact True.intro | refine Lf.mk ?_ ?_); all_goals intro hP)
    refine awp_loop 6 ?_
    (have ww1 := h0; have ww2 := h12; have cc1 := fun z1 => g0 z1; refine wk ?_; clear ww1 ww2 cc1; (repeat' first | exact True.intro | refine Lf.mk ?_ ?_); all_goals intro hP)
    (refine resX ?_; try exact True.intro)
    all_goals simp [verC, b0]
  | true =>
    cases b1 : verH c.c1 vars with
    | false =>
      simp only [b0, b1] at g0 g1
      (refine ARun.intro Try.func17 rfl Try.call17 Try.ntmps17 Try.results17 ?_; simp only [List.length_cons, List.length_nil, List.length_map, Nat.reduceAdd, Nat.reduceSub, List.replicate_succ, List.replicate_zero, List.cons_append, List.nil_append])
      (have ww1 := h0; have ww2 := h12; refine wk ?_; clear ww1 ww2; (repeat' first | exact True.intro | refine Lf.mk ?_ ?_); all_goals intro hP)
      refine awp_loop 6 ?_
      (have ww1 := h0; have ww2 := h12; have cc1 := fun z1 => g0 z1; have cc2 := fun z1 => g1 z1; refine wk ?_; clear ww1 ww2 cc1 cc2; (repeat' first | exact True.intro | refine Lf.mk ?_ ?_); all_goals intro hP)
      (refine resX ?_; try exact True.intro)
      all_goals simp [verC, b0, b1]
    | true =>
      cases b2 : verH c.c2 vars with
      | false =>
        simp only [b0, b1, b2] at g0 g1 g2
        (refine ARun.intro Try.func17 rfl Try.call17 Try.ntmps17 Try.results17 ?_; simp only [List.length_cons, List.length_nil, List.length_map, Nat.reduceAdd, Nat.reduceSub, List.replicate_succ, List.replicate_zero, List.cons_append, List.nil_append])
        (have ww1 := h0; have ww2 := h12; refine wk ?_; clear ww1 ww2; (repeat' first | exact True.intro | refine Lf.mk ?_ ?_); all_goals intro hP)
        refine awp_loop 6 ?_
        (have ww1 := h0; have ww2 := h12; have cc1 := fun z1 => g0 z1; have cc2 := fun z1 => g1 z1; have cc3 := fun z1 => g2 z1; refine wk ?_; clear ww1 ww2 cc1 cc2 cc3; (repeat' first | exact True.intro | refine Lf.mk ?_ ?_); all_goals intro hP)
        (refine resX ?_; try exact True.intro)
        all_goals simp [verC, b0, b1, b2]
      | true =>
        cases b3 : verH c.c3 vars with
        | false =>
          simp only [b0, b1, b2, b3] at g0 g1 g2 g3
          (refine ARun.intro Try.func17 rfl Try.call17 Try.ntmps17 Try.results17 ?_; simp only [List.length_cons, List.length_nil, List.length_map, Nat.reduceAdd, Nat.reduceSub, List.replicate_succ, List.replicate_zero, List.cons_append, List.nil_append])
          (have ww1 := h0; have ww2 := h12; refine wk ?_; clear ww1 ww2; (repeat' first | exact True.intro | refine Lf.mk ?_ ?_); all_goals intro hP)
          refine awp_loop 6 ?_
          (have ww1 := h0; have ww2 := h12; have cc1 := fun z1 => g0 z1; have cc2 := fun z1 => g1 z1; have cc3 := fun z1 => g2 z1; have cc4 := fun z1 => g3 z1; refine wk ?_; clear ww1 ww2 cc1 cc2 cc3 cc4; (repeat' first | exact True.intro | refine Lf.mk ?_ ?_); all_goals intro hP)
          (refine resX ?_; try exact True.intro)
          all_goals simp [verC, b0, b1, b2, b3]
        | true =>
          cases b4 : verH c.c4 vars with
          | false =>
            simp only [b0, b1, b2, b3, b4] at g0 g1 g2 g3 g4
            (refine ARun.intro Try.func17 rfl Try.call17 Try.ntmps17 Try.results17 ?_; simp only [List.length_cons, List.length_nil, List.length_map, Nat.reduceAdd, Nat.reduceSub, List.replicate_succ, List.replicate_zero, List.cons_append, List.nil_append])
            (have ww1 := h0; have ww2 := h12; refine wk ?_; clear ww1 ww2; (repeat' first | exact True.intro | refine Lf.mk ?_ ?_); all_goals intro hP)
            refine awp_loop 6 ?_
            (have ww1 := h0; have ww2 := h12; have cc1 := fun z1 => g0 z1; have cc2 := fun z1 => g1 z1; have cc3 := fun z1 => g2 z1; have cc4 := fun z1 => g3 z1; have cc5 := fun z1 => g4 z1; refine wk ?_; clear ww1 ww2 cc1 cc2 cc3 cc4 cc5; (repeat' first | exact True.intro | refine Lf.mk ?_ ?_); all_goals intro hP)
            (refine resX ?_; try exact True.intro)
            all_goals simp [verC, b0, b1, b2, b3, b4]
          | true =>
            simp only [b0, b1, b2, b3, b4] at g0 g1 g2 g3 g4
            (refine ARun.intro Try.func17 rfl Try.call17 Try.ntmps17 Try.results17 ?_; simp only [List.length_cons, List.length_nil, List.length_map, Nat.reduceAdd, Nat.reduceSub, List.replicate_succ, List.replicate_zero, List.cons_append, List.nil_append])
            (have ww1 := h0; have ww2 := h12; refine wk ?_; clear ww1 ww2; (repeat' first | exact True.intro | refine Lf.mk ?_ ?_); all_goals intro hP)
            refine awp_loop 6 ?_
            (have ww1 := h0; have ww2 := h12; have cc1 := fun z1 => g0 z1; have cc2 := fun z1 => g1 z1; have cc3 := fun z1 => g2 z1; have cc4 := fun z1 => g3 z1; have cc5 := fun z1 => g4 z1; refine wk ?_; clear ww1 ww2 cc1 cc2 cc3 cc4 cc5; (repeat' first | exact True.intro | refine Lf.mk ?_ ?_); all_goals intro hP)
            (refine resX ?_; try exact True.intro)
            all_goals simp [verC, b0, b1, b2, b3, b4, hv.1, hv.2]
end Go.Proofs.Ytiifbdkedainnaa.Y

set_option maxHeartbeats 8000000
set_option maxRecDepth 20000
set_option linter.unusedVariables false
set_option linter.unusedSimpArgs false
set_option linter.unusedSectionVars false
namespace Go.Proofs.Ytiifbdkedainnaa.Y
open Go.Proofs.Ytiifbdkedainnaa.AL Go.Proofs Go
attribute [local irreducible] AWP AWL AWG AWR AWE AWX AWO AWSeq AWSG AWSR AWSO AWSE AWSF GoodP OGW OGR OGE OGX PGW PGR PGE Wk AWLoop AWPD AWLD

theorem inside_run' (n low high : Int) (H0 : List AObj) :
    ARun Try.prog 28 [.i n, .i low, .i high] H0 (.ret (.b (decide (low ≤ n) && decide (n ≤ high))) H0) := by
  by_cases h1 : low ≤ n <;> by_cases h2 : n ≤ high <;> simp only [h1, h2, decide_true, decide_false, Bool.and_true, Bool.and_false, Bool.and_self] <;> have h1' := h1 <;> have h2' := h2 <;>
  ((refine ARun.intro Try.func28 rfl Try.call28 Try.ntmps28 Try.results28 ?_; simp only [List.length_cons, List.length_nil, List.length_map, Nat.reduceAdd, Nat.reduceSub, List.replicate_succ, List.replicate_zero, List.cons_append, List.nil_append])
   (have ww1 := h1; have ww2 := h2; refine wkO ?_; clear ww1 ww2; (repeat' first | exact True.intro | refine Lf.mk ?_ ?_); all_goals intro hP)
   (refine resX ?_; try exact True.intro))
theorem CVerify_run (c : Cod) (vars : Int) (hf : CodFine c) (H0 : List AObj) :
    ARun Try.prog 16 [agC c, .i vars] H0 (.ret (.b (verC c vars)) H0) := by
  have hin := fun H0 => inside_run' vars 0 12 H0
  by_cases hv : 0 ≤ vars ∧ vars ≤ 12
  · have g0 := fun H0 => chandler_run c.c0 vars hv hf.l0 H0
    have g1 := fun H0 => chandler_run c.c1 vars hv hf.l1 H0
    have g2 := fun H0 => chandler_run c.c2 vars hv hf.l2 H0
    have g3 := fun H0 => chandler_run c.c3 vars hv hf.l3 H0
    have g4 := fun H0 => chandler_run c.c4 vars hv hf.l4 H0
    have hd : (decide (0 ≤ vars) && decide (vars ≤ 12)) = true := by simp [hv]
    simp only [hd] at hin
    (refine ARun.intro Try.func16 rfl Try.call16 Try.ntmps16 Try.results16 ?_; simp only [List.length_cons, List.length_nil, List.length_map, Nat.reduceAdd, Nat.reduceSub, List.replicate_succ, List.replicate_zero, List.cons_append, List.nil_append])
    (have cc1 := fun z1 => hin z1; refine wk ?_; clear cc1; (repeat' first | exact True.intro | refine Lf.mk ?_ ?_); all_goals intro hP)
    refine awp_loop 6 ?_
    (have cc1 := fun z1 => g0 z1; have cc2 := fun z1 => g1 z1; have cc3 := fun z1 => g2 z1; have cc4 := fun z1 => g3 z1; have cc5 := fun z1 => g4 z1; refine wk ?_; clear cc1 cc2 cc3 cc4 cc5; (repeat' first | exact True.intro | refine Lf.mk ?_ ?_); all_goals intro hP)
    all_goals ((refine resX ?_; try exact True.intro); simp_all [verC])
  · have hd : (decide (0 ≤ vars) && decide (vars ≤ 12)) = false := by simp; omega
    have hd' : decide (0 ≤ vars ∧ vars ≤ 12) = false := by simp; omega
    simp only [hd] at hin
    (refine ARun.intro Try.func16 rfl Try.call16 Try.ntmps16 Try.results16 ?_; simp only [List.length_cons, List.length_nil, List.length_map, Nat.reduceAdd, Nat.reduceSub, List.replicate_succ, List.replicate_zero, List.cons_append, List.nil_append])
    (have cc1 := fun z1 => hin z1; refine wk ?_; clear cc1; (repeat' first | exact True.intro | refine Lf.mk ?_ ?_); all_goals intro hP)
    refine awp_loop 6 ?_
    (refine wk ?_; (repeat' first | exact True.intro | refine Lf.mk ?_ ?_); all_goals intro hP)
    (refine resX ?_; try exact True.intro)
    simp [verC, hd']
end Go.Proofs.Ytiifbdkedainnaa.Y

set_option maxHeartbeats 8000000
set_option maxRecDepth 20000
set_option linter.unusedVariables false
set_option linter.unusedSimpArgs false
set_option linter.unusedSectionVars false
namespace Go.Proofs.Ytiifbdkedainnaa.Y
open Go.Proofs.Ytiifbdkedainnaa.AL Go.Proofs Go
attribute [local irreducible] AWP AWL AWG AWR AWE AWX AWO AWSeq AWSG AWSR AWSO AWSE AWSF GoodP OGW OGR OGE OGX PGW PGR PGE Wk AWLoop AWPD AWLD

def shortS (c : Cod) (n : Int) : Bool := decide ((c.c0.length : Int) ≤ n) && (decide ((c.c1.length : Int) ≤ n) && (decide ((c.c2.length : Int) ≤ n) && (decide ((c.c3.length : Int) ≤ n) && decide ((c.c4.length : Int) ≤ n))))
theorem RShort9_run (c : Cod) (n : Int) (H0 : List AObj) :
    ARun Try.prog 12 [agC c, .i n] H0 (.ret (.b (shortS c n)) H0) := by
  by_cases b0 : n < c.c0.length
  · have a0 : ¬ (c.c0.length : Int) ≤ n := by omega
    (refine ARun.intro Try.func12 rfl Try.call12 Try.ntmps12 Try.results12 ?_; simp only [List.length_cons, List.length_nil, List.length_map, Nat.reduceAdd, Nat.reduceSub, List.replicate_succ, List.replicate_zero, List.cons_append, List.nil_append])
    (refine wk ?_; (repeat' first | exact True.intro | refine Lf.mk ?_ ?_); all_goals intro hP)
    refine awp_loop 6 ?_
    (have ww1 := b0; refine wk ?_; clear ww1; (repeat' first | exact True.intro | refine Lf.mk ?_ ?_); all_goals intro hP)
    (refine resX ?_; try exact True.intro)
    all_goals simp [shortS, a0]
  by_cases b1 : n < c.c1.length
  · have a1 : ¬ (c.c1.length : Int) ≤ n := by omega
    (refine ARun.intro Try.func12 rfl Try.call12 Try.ntmps12 Try.results12 ?_; simp only [List.length_cons, List.length_nil, List.length_map, Nat.reduceAdd, Nat.reduceSub, List.replicate_succ, List.replicate_zero, List.cons_append, List.nil_append])
    (refine wk ?_; (repeat' first | exact True.intro | refine Lf.mk ?_ ?_); all_goals intro hP)
    refine awp_loop 6 ?_
    (have ww1 := b0; have ww2 := b1; refine wk ?_; clear ww1 ww2; (repeat' first | exact True.intro | refine Lf.mk ?_ ?_); all_goals intro hP)
    (refine resX ?_; try exact True.intro)
    all_goals simp [shortS, a1]
  by_cases b2 : n < c.c2.length
  · have a2 : ¬ (c.c2.length : Int) ≤ n := by omega
    (refine ARun.intro Try.func12 rfl Try.call12 Try.ntmps12 Try.results12 ?_; simp only [List.length_cons, List.length_nil, List.length_map, Nat.reduceAdd, Nat.reduceSub, List.replicate_succ, List.replicate_zero, List.cons_append, List.nil_append])
    (refine wk ?_; (repeat' first | exact True.intro | refine Lf.mk ?_ ?_); all_goals intro hP)
    refine awp_loop 6 ?_
    (have ww1 := b0; have ww2 := b1; have ww3 := b2; refine wk ?_; clear ww1 ww2 ww3; (repeat' first | exact True.intro | refine Lf.mk ?_ ?_); all_goals intro hP)
    (refine resX ?_; try exact True.intro)
    all_goals simp [shortS, a2]
  by_cases b3 : n < c.c3.length
  · have a3 : ¬ (c.c3.length : Int) ≤ n := by omega
    (refine ARun.intro Try.func12 rfl Try.call12 Try.ntmps12 Try.results12 ?_; simp only [List.length_cons, List.length_nil, List.length_map, Nat.reduceAdd, Nat.reduceSub, List.replicate_succ, List.replicate_zero, List.cons_append, List.nil_append])
    (refine wk ?_; (repeat' first | exact True.intro | refine Lf.mk ?_ ?_); all_goals intro hP)
    refine awp_loop 6 ?_
    (have ww1 := b0; have ww2 := b1; have ww3 := b2; have ww4 := b3; refine wk ?_; clear ww1 ww2 ww3 ww4; (repeat' first | exact True.intro | refine Lf.mk ?_ ?_); all_goals intro hP)
    (refine resX ?_; try exact True.intro)
    all_goals simp [shortS, a3]
  by_cases b4 : n < c.c4.length
  · have a4 : ¬ (c.c4.length : Int) ≤ n := by omega
    (refine ARun.intro Try.func12 rfl Try.call12 Try.ntmps12 Try.results12 ?_; simp only [List.length_cons, List.length_nil, List.length_map, Nat.reduceAdd, Nat.reduceSub, List.replicate_succ, List.replicate_zero, List.cons_append, List.nil_append])
    (refine wk ?_; (repeat' first | exact True.intro | refine Lf.mk ?_ ?_); all_goals intro hP)
    refine awp_loop 6 ?_
    (have ww1 := b0; have ww2 := b1; have ww3 := b2; have ww4 := b3; have ww5 := b4; refine wk ?_; clear ww1 ww2 ww3 ww4 ww5; (repeat' first | exact True.intro | refine Lf.mk ?_ ?_); all_goals intro hP)
    (refine resX ?_; try exact True.intro)
    all_goals simp [shortS, a4]
  have a0 : (c.c0.length : Int) ≤ n := by omega
  have a1 : (c.c1.length : Int) ≤ n := by omega
  have a2 : (c.c2.length : Int) ≤ n := by omega
  have a3 : (c.c3.length : Int) ≤ n := by omega
  have a4 : (c.c4.length : Int) ≤ n := by omega
  (refine ARun.intro Try.func12 rfl Try.call12 Try.ntmps12 Try.results12 ?_; simp only [List.length_cons, List.length_nil, List.length_map, Nat.reduceAdd, Nat.reduceSub, List.replicate_succ, List.replicate_zero, List.cons_append, List.nil_append])
  (refine wk ?_; (repeat' first | exact True.intro | refine Lf.mk ?_ ?_); all_goals intro hP)
  refine awp_loop 6 ?_
  (have ww1 := b0; have ww2 := b1; have ww3 := b2; have ww4 := b3; have ww5 := b4; refine wk ?_; clear ww1 ww2 ww3 ww4 ww5; (repeat' first | exact True.intro | refine Lf.mk ?_ ?_); all_goals intro hP)
  (refine resX ?_; try exact True.intro)
  all_goals simp [shortS, a0, a1, a2, a3, a4]
end Go.Proofs.Ytiifbdkedainnaa.Y

/- Plain laws: names of things, and which programs are valid. -/
set_option linter.unusedVariables false
namespace Go.Proofs.Ytiifbdkedainnaa.AL
def wUnits : List ByteArray := [⟨#[110, 111, 110, 101]⟩, ⟨#[112, 97, 99, 107, 101, 116, 115]⟩, ⟨#[98, 121, 116, 101, 115]⟩, ⟨#[116, 105, 109, 101]⟩, ⟨#[114, 97, 116, 101]⟩]
def wEvents : List ByteArray := [⟨#[97, 99, 107]⟩, ⟨#[108, 111, 115, 115]⟩, ⟨#[109, 97, 114, 107]⟩, ⟨#[116, 105, 109, 101, 111, 117, 116]⟩, ⟨#[112, 97, 116, 104]⟩]
def wPolicies : List ByteArray := [⟨#[116, 97, 105, 108]⟩, ⟨#[101, 97, 114, 108, 121]⟩, ⟨#[115, 111, 106, 111, 117, 114, 110]⟩, ⟨#[105, 110, 116, 101, 103, 114, 97, 108]⟩, ⟨#[100, 101, 102, 105, 99, 105, 116]⟩, ⟨#[100, 117, 97, 108]⟩]
def wInputs : List ByteArray := [⟨#[97, 99, 107, 101, 100]⟩, ⟨#[114, 116, 116]⟩, ⟨#[115, 105, 122, 101]⟩, ⟨#[116, 111, 116, 97, 108]⟩]
def wOthers : List ByteArray := [⟨#[108, 105, 110, 107]⟩, ⟨#[112, 97, 116, 104]⟩, ⟨#[102, 108, 111, 119]⟩, ⟨#[112, 114, 111, 103, 114, 97, 109]⟩, ⟨#[100, 101, 108, 97, 121]⟩, ⟨#[114, 111, 111, 109]⟩, ⟨#[98, 97, 99, 107]⟩, ⟨#[112, 97, 116, 104, 115]⟩, ⟨#[119, 105, 110, 100, 111, 119]⟩, ⟨#[115, 116, 97, 114, 116]⟩, ⟨#[112, 97, 99, 101]⟩, ⟨#[118, 97, 114]⟩, ⟨#[111, 110]⟩, ⟨#[105, 102]⟩, ⟨#[101, 108, 115, 101]⟩, ⟨#[109, 105, 110]⟩, ⟨#[109, 97, 120]⟩, ⟨#[117, 112]⟩]
/-- Two texts are the same, as the machine compares them. -/
def eqB (a b : ByteArray) : Bool := a.toList == b.toList
theorem eqB_comm (a b : ByteArray) : eqB a b = eqB b a := by
  unfold eqB
  rw [Bool.eq_iff_iff, beq_iff_eq, beq_iff_eq]
  exact eq_comm
/-- A text's place in a list, or -1. -/
def placeS : List ByteArray → ByteArray → Int → Int
  | [], _, _ => -1
  | w :: l, s, i => if eqB w s = true then i else placeS l s (i + 1)
def inB (l : List ByteArray) (s : ByteArray) : Bool := l.any fun w => eqB w s
theorem placeS_nn {l : List ByteArray} {s : ByteArray} : ∀ {i : Int}, 0 ≤ i → (0 ≤ placeS l s i ↔ inB l s = true) := by
  induction l with
  | nil => intro i hi; simp [placeS, inB]
  | cons w l ih =>
    intro i hi
    unfold placeS
    have := ih (i := i + 1) (by omega)
    by_cases h : eqB w s = true
    · simp [h, inB, hi]
    · simp only [h, if_false, Bool.false_eq_true, this]
      unfold inB
      rw [List.any_cons]
      simp [h]
def keyB (s : ByteArray) : Bool := inB wUnits s || (inB wEvents s || (inB wPolicies s || (inB wInputs s || inB wOthers s)))
def charS (i : Nat) (c : Int) : Bool := (decide (97 ≤ c) && decide (c ≤ 122)) || (decide (i ≠ 0) && ((decide (48 ≤ c) && decide (c ≤ 57)) || c == 95))
def charsS : List Int → Nat → Bool
  | [], _ => true
  | c :: r, i => charS i c && charsS r (i + 1)
/-- A text is a name of one's own. -/
def nameB (s : ByteArray) : Bool := charsS (bytesZ s) 0 && (decide (1 ≤ s.size) && (decide (s.size ≤ 12) && !keyB s))
def varB (v : Vr) : Bool := nameB v.name && decide (0 ≤ v.unit ∧ v.unit ≤ 4 ∧ 0 ≤ v.low ∧ v.low ≤ v.init ∧ v.init ≤ v.high ∧ v.high ≤ 1000000000)
/-- A variable's place, or -1. -/
def findV : List Vr → ByteArray → Int → Int
  | [], _, _ => -1
  | v :: l, s, i => if eqB v.name s = true then i else findV l s (i + 1)
/-- No name stands twice. -/
def onceB : List Vr → List ByteArray → Bool
  | [], _ => true
  | v :: l, seen => !(inB seen v.name) && onceB l (seen ++ [v.name])
def usesB (l : List Vr) (k unit : Int) : Bool := decide (0 ≤ k ∧ k < l.length) && (((l[k.toNat]?).map (·.unit)) == some unit)
/-- A program is valid. -/
def validB (p : Prg) : Bool :=
  nameB p.name && (decide (1 ≤ p.vars.length) && (decide (p.vars.length ≤ 12) && ((p.vars.all varB) && (onceB p.vars [] && (decide (checkS p = (-1, 0)) && (usesB p.vars p.window 1 && (decide (p.pace = -1) || usesB p.vars p.pace 4)))))))
end Go.Proofs.Ytiifbdkedainnaa.AL

/- Plain laws: the stack machine as a whole. -/
set_option linter.unusedVariables false
namespace Go.Proofs.Ytiifbdkedainnaa.AL
def callOk (x : Cal) : Bool := decide (0 ≤ x.ev ∧ x.ev < 5 ∧ 1 ≤ x.i0 ∧ x.i0 ≤ 1000 ∧ 1 ≤ x.i1 ∧ x.i1 ≤ 10000000 ∧ 1 ≤ x.i2 ∧ x.i2 ≤ 10000 ∧ 0 ≤ x.i3 ∧ x.i3 ≤ 4000)
def stOk : List Vr → List Int → Bool
  | v :: vs, n :: ns => decide (-1000000000000 ≤ n ∧ n ≤ 1000000000000 ∧ v.low ≤ n ∧ n ≤ v.high) && stOk vs ns
  | [], [] => true
  | _, _ => false
theorem stOk_len : ∀ {vs : List Vr} {st : List Int}, stOk vs st = true → st.length = vs.length
  | [], [], _ => rfl
  | [], _ :: _, h => by simp [stOk] at h
  | _ :: _, [], h => by simp [stOk] at h
  | v :: vs, n :: ns, h => by
    simp only [stOk, Bool.and_eq_true] at h
    simp [stOk_len h.2]
theorem stOk_isV : ∀ {vs : List Vr} {st : List Int}, stOk vs st = true → ∀ n ∈ st, isV n
  | [], [], _, n, hn => by cases hn
  | [], _ :: _, h, _, _ => by simp [stOk] at h
  | _ :: _, [], h, _, _ => by simp [stOk] at h
  | v :: vs, m :: ns, h, n, hn => by
    simp only [stOk, Bool.and_eq_true, decide_eq_true_eq] at h
    rcases List.mem_cons.1 hn with rfl | hn
    · exact ⟨h.1.1, h.1.2.1⟩
    · exact stOk_isV h.2 n hn
def hand (c : Cod) (ev : Int) : List Ins := if ev = 0 then c.c0 else if ev = 1 then c.c1 else if ev = 2 then c.c2 else if ev = 3 then c.c3 else c.c4
def fitsS (vs : List Vr) (c : Cod) (st : List Int) (x : Cal) : Bool := verC c vs.length && (stOk vs st && callOk x)
def runS (vs : List Vr) (c : Cod) (st : List Int) (x : Cal) : Except Int (List Int) × Nat := traceS vs x.i0 x.i1 x.i2 x.i3 (hand c x.ev) ((hand c x.ev).length + 1) ⟨st, [], 0⟩ 0
def runE (r : Except Int (List Int)) : Int := match r with
  | .ok _ => 0
  | .error e => e
def runL (r : Except Int (List Int)) : List Int := match r with
  | .ok s => s
  | .error _ => []
theorem hand_ver {c : Cod} {vars ev : Int} (h : verC c vars = true) (h0 : 0 ≤ ev) (h5 : ev < 5) : verH (hand c ev) vars = true := by
  unfold verC at h
  simp only [Bool.and_eq_true] at h
  obtain ⟨_, h0, h1, h2, h3, h4⟩ := h
  unfold hand
  repeat' split
  all_goals assumption
theorem call_in {x : Cal} (h : callOk x = true) : ∀ j, isV (inS x.i0 x.i1 x.i2 x.i3 j) := by
  intro j
  unfold callOk at h
  have h := of_decide_eq_true h
  unfold inS isV
  repeat' split
  all_goals omega
section
variable {vs : List Vr} {i0 i1 i2 i3 : Int} {l : List Ins}
theorem trace_none {f n : Nat} {c : Cf} (h : l[c.at']? = none) : traceS vs i0 i1 i2 i3 l f c n = (.ok c.now, n) := by
  cases f with
  | zero => rfl
  | succ f => simp only [traceS, h]
theorem trace_err {f n : Nat} {c : Cf} {x : Ins} {e : Int} (h : l[c.at']? = some x) (hs : stepS vs i0 i1 i2 i3 x c = .error e) : traceS vs i0 i1 i2 i3 l (f + 1) c n = (.error e, n + 1) := by
  simp only [traceS, h, hs]
theorem trace_ok {f n : Nat} {c c' : Cf} {x : Ins} (h : l[c.at']? = some x) (hs : stepS vs i0 i1 i2 i3 x c = .ok c') : traceS vs i0 i1 i2 i3 l (f + 1) c n = traceS vs i0 i1 i2 i3 l f c' (n + 1) := by
  simp only [traceS, h, hs]
/-- Enough fuel, and one more: the same. -/
structure Going (vs : List Vr) (i0 i1 i2 i3 : Int) (l : List Ins) (ht : Nat → Int) (c : Cf) (n : Nat) : Prop where
  ok : CfOk vs c
  ht : (c.stk.length : Int) = ht c.at'
  le : c.at' ≤ l.length
  nle : n ≤ c.at'
end
end Go.Proofs.Ytiifbdkedainnaa.AL
namespace Go.Proofs.Ytiifbdkedainnaa.AL
/-- Where a run of a handler stands. -/
structure TInv (vs : List Vr) (i0 i1 i2 i3 : Int) (l : List Ins) (ht : Nat → Int) (st : List Int) (c : Cf) (n : Nat) : Prop where
  ok : CfOk vs c
  ht : (c.stk.length : Int) = ht c.at'
  le : c.at' ≤ l.length
  nle : n ≤ c.at'
  tr : ∃ f, l.length < f + c.at' ∧ traceS vs i0 i1 i2 i3 l (l.length + 1) ⟨st, [], 0⟩ 0 = traceS vs i0 i1 i2 i3 l f c n
section
variable {vs : List Vr} {i0 i1 i2 i3 : Int} {l : List Ins} {ht : Nat → Int} {st : List Int} {c c' : Cf} {n : Nat} {x : Ins}
theorem TInv.start (hc : Cert l vs.length ht) (hs : stOk vs st = true) : TInv vs i0 i1 i2 i3 l ht st ⟨st, [], 0⟩ 0 :=
  ⟨⟨stOk_len hs, stOk_isV hs, fun _ h => by cases h⟩, by simp [hc.zero], Nat.zero_le _, Nat.le_refl _, ⟨l.length + 1, by simp, rfl⟩⟩
theorem TInv.next (hc : Cert l vs.length ht) (hi : ∀ j, isV (inS i0 i1 i2 i3 j)) (t : TInv vs i0 i1 i2 i3 l ht st c n) (hx : l[c.at']? = some x) (hs : stepS vs i0 i1 i2 i3 x c = .ok c') :
    TInv vs i0 i1 i2 i3 l ht st c' (n + 1) ∧ l.length - c'.at' < l.length - c.at' := by
  obtain ⟨a1, a2, a3, a4⟩ := stepS_cert hc hx t.ok t.ht hi hs
  obtain ⟨f, f1, f2⟩ := t.tr
  have hlt := (List.getElem?_eq_some_iff.1 hx).1
  obtain ⟨g, rfl⟩ : ∃ g, f = g + 1 := ⟨f - 1, by omega⟩
  have := t.nle
  exact ⟨⟨a1, a2, a4, by omega, ⟨g, by omega, by rw [f2, trace_ok hx hs]⟩⟩, by omega⟩
theorem TInv.err (t : TInv vs i0 i1 i2 i3 l ht st c n) (hx : l[c.at']? = some x) {e : Int} (hs : stepS vs i0 i1 i2 i3 x c = .error e) :
    traceS vs i0 i1 i2 i3 l (l.length + 1) ⟨st, [], 0⟩ 0 = (.error e, n + 1) := by
  obtain ⟨f, f1, f2⟩ := t.tr
  have hlt := (List.getElem?_eq_some_iff.1 hx).1
  obtain ⟨g, rfl⟩ : ∃ g, f = g + 1 := ⟨f - 1, by omega⟩
  rw [f2, trace_err hx hs]
theorem TInv.stop (t : TInv vs i0 i1 i2 i3 l ht st c n) (hx : l[c.at']? = none) : traceS vs i0 i1 i2 i3 l (l.length + 1) ⟨st, [], 0⟩ 0 = (.ok c.now, n) := by
  obtain ⟨f, f1, f2⟩ := t.tr
  rw [f2, trace_none hx]
end
end Go.Proofs.Ytiifbdkedainnaa.AL
namespace Go.Proofs.Ytiifbdkedainnaa.AL
def dV : Vr := ⟨default, 0, 0, 0, 0⟩
theorem getEV {l : List Vr} {k : Nat} (h : k < l.length) : l[k]? = some (l.getD k dV) := by
  rw [List.getD_eq_getElem?_getD, List.getElem?_eq_getElem h]; rfl
theorem takes_2 {op : Int} (h : op = 12 ∨ (op ≠ 1 ∧ op ≠ 2 ∧ op ≠ 3 ∧ op ≠ 11 ∧ op ≠ 13)) : takes op = 2 := by
  unfold takes; rw [if_neg (by omega), if_neg (by omega)]
end Go.Proofs.Ytiifbdkedainnaa.AL
namespace Go.Proofs.Ytiifbdkedainnaa.AL
def refRunS (vs : List Vr) (c : Cod) (st : List Int) (x : Cal) : Except Int (List Int) := if fitsS vs c st x = true then (runS vs c st x).1 else .error 1
def stepsN (vs : List Vr) (c : Cod) (st : List Int) (x : Cal) : Int := if fitsS vs c st x = true then ((runS vs c st x).2 : Int) else 0
def stepsE (vs : List Vr) (c : Cod) (st : List Int) (x : Cal) : Int := if fitsS vs c st x = true then 0 else 1
theorem verC_vars {c : Cod} {vars : Int} (h : verC c vars = true) : 0 ≤ vars ∧ vars ≤ 12 := by
  unfold verC at h
  simp only [Bool.and_eq_true, decide_eq_true_eq] at h
  exact h.1
theorem fits_all {vs : List Vr} {c : Cod} {st : List Int} {x : Cal} (h : fitsS vs c st x = true) : verC c vs.length = true ∧ stOk vs st = true ∧ callOk x = true := by
  unfold fitsS at h
  simp only [Bool.and_eq_true] at h
  exact h
theorem call_ev {x : Cal} (h : callOk x = true) : 0 ≤ x.ev ∧ x.ev < 5 := by
  unfold callOk at h
  have h := of_decide_eq_true h
  exact ⟨h.1, h.2.1⟩
theorem hand_get {c : Cod} {ev : Int} (h : 0 ≤ ev ∧ ev < 5) : [AV.rs 3 (c.c0.map encI), .rs 3 (c.c1.map encI), .rs 3 (c.c2.map encI), .rs 3 (c.c3.map encI), .rs 3 (c.c4.map encI)][ev.toNat]? = some (.rs 3 ((hand c ev).map encI)) := by
  have : ev = 0 ∨ ev = 1 ∨ ev = 2 ∨ ev = 3 ∨ ev = 4 := by omega
  rcases this with rfl | rfl | rfl | rfl | rfl <;> rfl
end Go.Proofs.Ytiifbdkedainnaa.AL

/- Plain laws: the stack machine as a whole, continued. -/
set_option linter.unusedVariables false
namespace Go.Proofs.Ytiifbdkedainnaa.AL
theorem stOk_get : ∀ {vs : List Vr} {st : List Int} {k : Nat} {v : Vr} {n : Int}, stOk vs st = true → vs[k]? = some v → st[k]? = some n → -1000000000000 ≤ n ∧ n ≤ 1000000000000 ∧ v.low ≤ n ∧ n ≤ v.high
  | v :: vs, m :: ns, 0, _, _, h, hv, hn => by
    simp only [stOk, Bool.and_eq_true, decide_eq_true_eq] at h
    simp only [List.getElem?_cons_zero, Option.some.injEq] at hv hn
    subst hv; subst hn
    exact h.1
  | v :: vs, m :: ns, k + 1, _, _, h, hv, hn => by
    simp only [stOk, Bool.and_eq_true, decide_eq_true_eq] at h
    simp only [List.getElem?_cons_succ] at hv hn
    exact stOk_get h.2 hv hn
  | [], _, k, _, _, _, hv, _ => by simp at hv
  | _ :: _, [], k, _, _, _, _, hn => by simp at hn
end Go.Proofs.Ytiifbdkedainnaa.AL
namespace Go.Proofs.Ytiifbdkedainnaa.AL
theorem stepS_ne {vs : List Vr} {i0 i1 i2 i3 : Int} {x : Ins} {c : Cf} {e : Int} (h : stepS vs i0 i1 i2 i3 x c = .error e) : e ≠ 0 := by
  unfold stepS at h
  repeat' split at h
  all_goals first | (cases h; done) | (cases h; decide) | skip
  · rename_i hc
    cases h
    rcases calcS_err hc with h | h <;> omega
theorem trace_ne {vs : List Vr} {i0 i1 i2 i3 : Int} {l : List Ins} : ∀ {f : Nat} {c : Cf} {n : Nat} {e : Int}, (traceS vs i0 i1 i2 i3 l f c n).1 = .error e → e ≠ 0
  | 0, c, n, e, h => by simp [traceS] at h
  | f + 1, c, n, e, h => by
    simp only [traceS] at h
    split at h
    · simp at h
    · split at h
      · rename_i e' he
        simp only [Except.error.injEq] at h
        subst h
        exact stepS_ne he
      · exact trace_ne h
end Go.Proofs.Ytiifbdkedainnaa.AL
namespace Go.Proofs.Ytiifbdkedainnaa.AL
theorem stepS_len {vs : List Vr} {i0 i1 i2 i3 : Int} {x : Ins} {c c' : Cf} (h : stepS vs i0 i1 i2 i3 x c = .ok c') : c'.now.length = c.now.length := by
  unfold stepS at h
  repeat' split at h
  all_goals first | (cases h; done) | (cases h; rfl) | (cases h; simp) | skip
theorem trace_len {vs : List Vr} {i0 i1 i2 i3 : Int} {l : List Ins} : ∀ {f : Nat} {c : Cf} {n : Nat} {s : List Int}, (traceS vs i0 i1 i2 i3 l f c n).1 = .ok s → s.length = c.now.length
  | 0, c, n, s, h => by simp only [traceS, Except.ok.injEq] at h; rw [h]
  | f + 1, c, n, s, h => by
    simp only [traceS] at h
    split at h
    · simp only [Except.ok.injEq] at h; rw [h]
    · split at h
      · cases h
      · rename_i c' hc
        rw [trace_len h, stepS_len hc]
theorem refRun_len (vs : List Vr) (c : Cod) (st : List Int) (x : Cal) : (runL (refRunS vs c st x)).length ≤ st.length := by
  unfold refRunS
  split
  · cases h : (runS vs c st x).1 with
    | ok s => have := trace_len h; simp only [runL]; simp only at this; omega
    | error e => simp [runL]
  · simp [runL]
end Go.Proofs.Ytiifbdkedainnaa.AL

/- Plain laws: what a run of the stack machine leads to; two handlers put together. -/
set_option linter.unusedVariables false
namespace Go.Proofs.Ytiifbdkedainnaa.AL
/-- An instruction at k leads to j. -/
def leads (x : Ins) (k j : Nat) : Prop := (x.op ≠ 13 ∧ j = k + 1) ∨ ((x.op = 12 ∨ x.op = 13) ∧ j = x.n.toNat)
/-- The first i instructions lead to j. -/
def reached (l : List Ins) (i j : Nat) : Prop := j = 0 ∨ ∃ k x, k < i ∧ l[k]? = some x ∧ leads x k j
theorem reached_succ {l : List Ins} {i j : Nat} {x : Ins} (hx : l[i]? = some x) : reached l (i + 1) j ↔ reached l i j ∨ leads x i j := by
  constructor
  · rintro (h | ⟨k, y, h1, h2, h3⟩)
    · exact .inl (.inl h)
    · by_cases hk : k = i
      · subst hk; rw [hx] at h2; cases h2; exact .inr h3
      · exact .inl (.inr ⟨k, y, by omega, h2, h3⟩)
  · rintro ((h | ⟨k, y, h1, h2, h3⟩) | h)
    · exact .inl h
    · exact .inr ⟨k, y, by omega, h2, h3⟩
    · exact .inr ⟨i, x, by omega, hx, h⟩
theorem reached_mono {l : List Ins} {i i' j : Nat} (h : i ≤ i') (hr : reached l i j) : reached l i' j := by
  rcases hr with h1 | ⟨k, y, h1, h2, h3⟩
  · exact .inl h1
  · exact .inr ⟨k, y, by omega, h2, h3⟩
/-- A table of heights as far as they are known. -/
def HTab (hs : List Int) (ht : Nat → Int) (P : Nat → Prop) : Prop := ∀ j, j < hs.length → (P j → hs[j]? = some (ht j)) ∧ (¬ P j → hs[j]? = some (-1))
theorem reachS_tab {hs : List Int} {ht : Nat → Int} {P : Nat → Prop} {a : Nat} {h : Int} (ha : a < hs.length) (hT : HTab hs ht P) (hh : ht a = h) :
    reachS hs a h = some (hs.set a h) ∧ HTab (hs.set a h) ht (fun j => P j ∨ j = a) := by
  obtain ⟨h1, h2⟩ := hT a ha
  have : hs.getD a 0 = -1 ∨ hs.getD a 0 = h := by
    by_cases hp : P a
    · right; rw [List.getD_eq_getElem?_getD, h1 hp, hh]; rfl
    · left; rw [List.getD_eq_getElem?_getD, h2 hp]; rfl
  refine ⟨by rw [reachS_getD ha, if_pos this], fun j hj => ?_⟩
  rw [List.length_set] at hj
  by_cases hja : j = a
  · subst hja
    refine ⟨fun _ => by rw [List.getElem?_set_self hj, hh], fun hn => absurd (.inr rfl) hn⟩
  · obtain ⟨g1, g2⟩ := hT j hj
    rw [List.getElem?_set_ne (Ne.symm hja)]
    exact ⟨fun hp => g1 (hp.resolve_right hja), fun hn => g2 fun hp => hn (.inl hp)⟩
theorem hStep_tab {l : List Ins} {vars : Int} {ht : Nat → Int} {x : Ins} {i : Nat} {hs : List Int} (hc : CertAt l.length vars ht x i) (hx : l[i]? = some x) (hl : hs.length = l.length + 1) (hT : HTab hs ht (reached l i)) (hr : reached l i i) :
    ∃ hs', hStep l.length vars x i hs = some hs' ∧ hs'.length = l.length + 1 ∧ HTab hs' ht (reached l (i + 1)) := by
  have hlt := (List.getElem?_eq_some_iff.1 hx).1
  have hi := (hT i (by omega)).1 hr
  have t1 := takes_nn x.op
  have t2 := puts_nn x.op
  have c1 := hc.tk
  have c2 := hc.pt
  have n1 : ¬ (ht i = -1 ∨ insOk x i l.length vars = false ∨ ht i < takes x.op) := by
    rw [hc.ok]; rintro (h | h | h)
    · omega
    · cases h
    · omega
  have n2 : ¬ 64 < ht i - takes x.op + puts x.op := by omega
  have key : ∀ {hs' : List Int} {P : Nat → Prop}, HTab hs' ht P → (∀ j, P j ↔ reached l (i + 1) j) → HTab hs' ht (reached l (i + 1)) := by
    intro hs' P h hp
    have : P = reached l (i + 1) := funext fun j => propext (hp j)
    rw [← this]; exact h
  by_cases h12 : x.op = 12
  · rw [hStep_12 hi n1 n2 h12]
    have hj := insOk_jump hc.ok (.inl h12)
    obtain ⟨e1, T1⟩ := reachS_tab (a := x.n.toNat) (by omega) hT (hc.jmp (.inl h12))
    obtain ⟨e2, T2⟩ := reachS_tab (a := i + 1) (by rw [List.length_set]; omega) T1 (hc.nxt (by omega))
    rw [e1]
    refine ⟨_, e2, by simpa using hl, key T2 fun j => ?_⟩
    rw [reached_succ hx]
    unfold leads
    constructor
    · rintro ((h | h) | h)
      · exact .inl h
      · exact .inr (.inr ⟨.inl h12, h⟩)
      · exact .inr (.inl ⟨by omega, h⟩)
    · rintro (h | ⟨_, h⟩ | ⟨_, h⟩)
      · exact .inl (.inl h)
      · exact .inr h
      · exact .inl (.inr h)
  · by_cases h13 : x.op = 13
    · rw [hStep_13 hi n1 n2 h13]
      have hj := insOk_jump hc.ok (.inr h13)
      obtain ⟨e1, T1⟩ := reachS_tab (a := x.n.toNat) (by omega) hT (hc.jmp (.inr h13))
      refine ⟨_, e1, by simpa using hl, key T1 fun j => ?_⟩
      rw [reached_succ hx]
      unfold leads
      constructor
      · rintro (h | h)
        · exact .inl h
        · exact .inr (.inr ⟨.inr h13, h⟩)
      · rintro (h | ⟨h, _⟩ | ⟨_, h⟩)
        · exact .inl h
        · exact absurd h13 h
        · exact .inr h
    · rw [hStep_go hi n1 n2 h12 h13]
      obtain ⟨e1, T1⟩ := reachS_tab (a := i + 1) (by omega) hT (hc.nxt h13)
      refine ⟨_, e1, by simpa using hl, key T1 fun j => ?_⟩
      rw [reached_succ hx]
      unfold leads
      constructor
      · rintro (h | h)
        · exact .inl h
        · exact .inr (.inl ⟨h13, h⟩)
      · rintro (h | ⟨_, h⟩ | ⟨h, _⟩)
        · exact .inl h
        · exact .inr h
        · omega
theorem hLoop_of {l : List Ins} {vars : Int} {ht : Nat → Int} (hc : Cert l vars ht) (hr : ∀ i, i ≤ l.length → reached l i i) :
    ∀ (rest : List Ins) (i : Nat) (hs : List Int), l.drop i = rest → i ≤ l.length → hs.length = l.length + 1 → HTab hs ht (reached l i) → hLoop l.length vars rest i hs = true
  | [], i, hs, hd, hi, hl, hT => by
    have hil : i = l.length := by
      have := congrArg List.length hd
      simp at this; omega
    subst hil
    rw [hLoop_nil ((hT _ (by omega)).1 (hr _ (Nat.le_refl _))), hc.last]; rfl
  | x :: rest, i, hs, hd, hi, hl, hT => by
    have hx : l[i]? = some x := by
      have := List.getElem?_drop (xs := l) (i := i) (j := 0)
      rw [hd] at this; simpa using this.symm
    have hlt := (List.getElem?_eq_some_iff.1 hx).1
    obtain ⟨hs', e, hl', hT'⟩ := hStep_tab (hc.at' _ _ hx) hx hl hT (hr i hi)
    rw [hLoop_cons, e]
    refine hLoop_of hc hr rest (i + 1) hs' ?_ hlt hl' hT'
    rw [← List.drop_drop, hd]; rfl
theorem hLoop_reach {l : List Ins} {vars : Int} : ∀ (rest : List Ins) (i : Nat) (hs : List Int), l.drop i = rest → i ≤ l.length → (∀ (j : Nat) (y : Int), hs[j]? = some y → y ≠ -1 → reached l i j) → hLoop l.length vars rest i hs = true →
    ∀ k, i ≤ k → k ≤ l.length → reached l k k
  | [], i, hs, hd, hi, hR, h, k, hk, hkl => by
    have hil : i = l.length := by
      have := congrArg List.length hd
      simp at this; omega
    have : k = i := by omega
    subst this
    unfold hLoop at h
    split at h
    · rename_i y hy
      have h : y = 0 := by simpa using h
      exact hR _ _ hy (by omega)
    · cases h
  | x :: rest, i, hs, hd, hi, hR, h, k, hk, hkl => by
    have hx : l[i]? = some x := by
      have := List.getElem?_drop (xs := l) (i := i) (j := 0)
      rw [hd] at this; simpa using this.symm
    have hlt := (List.getElem?_eq_some_iff.1 hx).1
    rw [hLoop_cons] at h
    cases e : hStep l.length vars x i hs with
    | none => rw [e] at h; cases h
    | some hs' =>
      rw [e] at h
      obtain ⟨y, a1, a2, a3, a4, a5, a6, a7, a8⟩ := hStep_get e
      by_cases hki : k = i
      · subst hki; exact hR _ _ a1 a2
      have inv : ∀ (j : Nat) (z : Int), hs'[j]? = some z → z ≠ -1 → reached l (i + 1) j := by
        intro j z hj hz
        rw [reached_succ hx]
        have back : ∀ {hs1 hs2 : List Int} {a : Nat} {h : Int}, reachS hs1 a h = some hs2 → hs2[j]? = some z → j = a ∨ hs1[j]? = some z := by
          intro hs1 hs2 a h' er hj2
          unfold reachS at er
          split at er
          · cases er
          · split at er
            · simp only [Option.some.injEq] at er; subst er
              by_cases hja : j = a
              · exact .inl hja
              · right; rwa [List.getElem?_set_ne (Ne.symm hja)] at hj2
            · cases er
        have n1 : ¬ (y = -1 ∨ insOk x i l.length vars = false ∨ y < takes x.op) := by
          rw [a3]; rintro (h | h | h)
          · exact a2 h
          · cases h
          · omega
        have n2 : ¬ 64 < y - takes x.op + puts x.op := by omega
        by_cases h12 : x.op = 12
        · rw [hStep_12 a1 n1 n2 h12] at e
          split at e
          · cases e
          · rename_i hs1 e1
            rcases back e hj with hb | hb
            · exact .inr (.inl ⟨by omega, hb⟩)
            · rcases back e1 hb with hb | hb
              · exact .inr (.inr ⟨.inl h12, hb⟩)
              · exact .inl (hR _ _ hb hz)
        · by_cases h13 : x.op = 13
          · rw [hStep_13 a1 n1 n2 h13] at e
            rcases back e hj with hb | hb
            · exact .inr (.inr ⟨.inr h13, hb⟩)
            · exact .inl (hR _ _ hb hz)
          · rw [hStep_go a1 n1 n2 h12 h13] at e
            rcases back e hj with hb | hb
            · exact .inr (.inl ⟨h13, hb⟩)
            · exact .inl (hR _ _ hb hz)
      exact hLoop_reach rest (i + 1) hs' (by rw [← List.drop_drop, hd]; rfl) hlt inv h k (by omega) hkl
theorem verH_iff {l : List Ins} {vars : Int} : verH l vars = true ↔ ∃ ht, Cert l vars ht ∧ ∀ i, i ≤ l.length → reached l i i := by
  constructor
  · intro h
    obtain ⟨ht, hc⟩ := verH_cert h
    refine ⟨ht, hc, ?_⟩
    rw [verH_eq hc.len] at h
    intro i hi
    refine hLoop_reach l 0 _ rfl (Nat.zero_le _) ?_ h i (Nat.zero_le _) hi
    intro j y hj hy
    cases j with
    | zero => exact .inl rfl
    | succ j =>
      simp only [List.getElem?_cons_succ, List.getElem?_replicate] at hj
      split at hj
      · simp at hj; omega
      · cases hj
  · rintro ⟨ht, hc, hr⟩
    rw [verH_eq hc.len]
    refine hLoop_of hc hr l 0 _ rfl (Nat.zero_le _) (by simp) ?_
    intro j hj
    have r0 : reached l 0 j ↔ j = 0 := by
      constructor
      · rintro (h | ⟨k, _, h, _⟩)
        · exact h
        · omega
      · exact .inl
    rw [r0]
    cases j with
    | zero => simp [hc.zero]
    | succ j =>
      simp only [List.length_cons, List.length_replicate] at hj
      simp only [List.getElem?_cons_succ, List.getElem?_replicate]
      refine ⟨by omega, fun _ => by rw [if_pos (by omega)]⟩
/-- The second handler's instructions behind n others. -/
def shI (n : Int) (x : Ins) : Ins := if x.op = 12 ∨ x.op = 13 then ⟨x.op, x.n + n, x.rel⟩ else x
def joinS (a b : List Ins) : List Ins := a ++ b.map (shI a.length)
theorem shI_op (n : Int) (x : Ins) : (shI n x).op = x.op := by unfold shI; split <;> rfl
theorem shI_rel (n : Int) (x : Ins) : (shI n x).rel = x.rel := by unfold shI; split <;> rfl
theorem shI_n {n : Int} {x : Ins} : (shI n x).n = if x.op = 12 ∨ x.op = 13 then x.n + n else x.n := by unfold shI; split <;> rfl
theorem insOk_mono {x : Ins} {i len len' vars : Int} (h : insOk x i len vars = true) (hl : len ≤ len') : insOk x i len' vars = true := by
  unfold insOk at h ⊢
  repeat' split at h
  all_goals simp_all
  all_goals omega
theorem insOk_sh {x : Ins} {i len vars n : Int} (h : insOk x i len vars = true) : insOk (shI n x) (n + i) (n + len) vars = true := by
  unfold shI
  split
  · rename_i ho
    unfold insOk at h ⊢
    rcases ho with ho | ho <;> simp [ho] at h ⊢ <;> omega
  · rename_i ho
    have h1 : x.op ≠ 12 := fun e => ho (.inl e)
    have h2 : x.op ≠ 13 := fun e => ho (.inr e)
    unfold insOk at h ⊢
    simp only [if_neg h1, if_neg h2] at h ⊢
    exact h
theorem joinS_left {a b : List Ins} {i : Nat} (h : i < a.length) : (joinS a b)[i]? = a[i]? := by
  unfold joinS; rw [List.getElem?_append_left h]
theorem joinS_right {a b : List Ins} {i : Nat} : (joinS a b)[a.length + i]? = (b[i]?).map (shI a.length) := by
  unfold joinS; rw [List.getElem?_append_right (by omega), Nat.add_sub_cancel_left, List.getElem?_map]
theorem joinS_len {a b : List Ins} : (joinS a b).length = a.length + b.length := by simp [joinS]
theorem verH_join {a b : List Ins} {vars : Int} (ha : verH a vars = true) (hb : verH b vars = true) (hl : a.length + b.length ≤ 4000) : verH (joinS a b) vars = true := by
  obtain ⟨h1, c1, r1⟩ := verH_iff.1 ha
  obtain ⟨h2, c2, r2⟩ := verH_iff.1 hb
  have hL : ((joinS a b).length : Int) = a.length + b.length := by rw [joinS_len]; omega
  rw [verH_iff]
  refine ⟨fun j => if j ≤ a.length then h1 j else h2 (j - a.length), ⟨by rw [joinS_len]; exact hl, by simp [c1.zero], fun i x hx => ?_, ?_⟩, fun i hi => ?_⟩
  · rcases Nat.lt_or_ge i a.length with hlt | hge
    · rw [joinS_left hlt] at hx
      have hc := c1.at' _ _ hx
      refine ⟨insOk_mono hc.ok (by omega), ?_, ?_, fun h => ?_, fun h => ?_⟩
      · simp only [if_pos (Nat.le_of_lt hlt)]; exact hc.tk
      · simp only [if_pos (Nat.le_of_lt hlt)]; exact hc.pt
      · simp only [if_pos (Nat.le_of_lt hlt), if_pos (show i + 1 ≤ a.length from hlt)]; exact hc.nxt h
      · have hj := insOk_jump hc.ok h
        simp only [if_pos (Nat.le_of_lt hlt), if_pos (show x.n.toNat ≤ a.length by omega)]; exact hc.jmp h
    · obtain ⟨k, rfl⟩ : ∃ k, i = a.length + k := ⟨i - a.length, by omega⟩
      rw [joinS_right, Option.map_eq_some_iff] at hx
      obtain ⟨y, hy, rfl⟩ := hx
      have hc := c2.at' _ _ hy
      have e0 : (if a.length + k ≤ a.length then h1 (a.length + k) else h2 (a.length + k - a.length)) = h2 k := by
        split
        · have : k = 0 := by omega
          subst this; rw [Nat.add_zero, c1.last, c2.zero]
        · rw [Nat.add_sub_cancel_left]
      have e1 : (if a.length + k + 1 ≤ a.length then h1 (a.length + k + 1) else h2 (a.length + k + 1 - a.length)) = h2 (k + 1) := by
        rw [if_neg (by omega)]; congr 1; omega
      refine ⟨?_, ?_, ?_, fun h => ?_, fun h => ?_⟩
      · have := insOk_sh (n := a.length) hc.ok
        rw [hL]
        rwa [show ((a.length + k : Nat) : Int) = (a.length : Int) + k by omega]
      · rw [shI_op]; (try dsimp only); rw [e0]; exact hc.tk
      · rw [shI_op]; (try dsimp only); rw [e0]; exact hc.pt
      · rw [shI_op] at h ⊢; (try dsimp only); rw [e0, e1]; exact hc.nxt h
      · rw [shI_op] at h ⊢; (try dsimp only)
        have hj := insOk_jump hc.ok h
        rw [shI_n, if_pos h, if_neg (by omega), e0]
        rw [show (y.n + (a.length : Int)).toNat - a.length = y.n.toNat by omega]
        exact hc.jmp h
  · (try dsimp only)
    rw [joinS_len]
    split
    · have : b.length = 0 := by omega
      rw [this, Nat.add_zero, c1.last]
    · rw [Nat.add_sub_cancel_left, c2.last]
  · rw [joinS_len] at hi
    have left : ∀ i, i ≤ a.length → ∀ j, reached a i j → reached (joinS a b) i j := by
      rintro i hi j (h | ⟨k, x, q1, q2, q3⟩)
      · exact .inl h
      · exact .inr ⟨k, x, q1, by rw [joinS_left (by omega)]; exact q2, q3⟩
    rcases Nat.lt_or_ge a.length i with hlt | hge
    · obtain ⟨k, rfl⟩ : ∃ k, i = a.length + k := ⟨i - a.length, by omega⟩
      rcases r2 k (by omega) with h | ⟨m, x, q1, q2, q3⟩
      · omega
      · have hj := insOk_jump (c2.at' _ _ q2).ok
        refine .inr ⟨a.length + m, shI a.length x, by omega, by rw [joinS_right, q2]; rfl, ?_⟩
        rcases q3 with ⟨g1, g2⟩ | ⟨g1, g2⟩
        · exact .inl ⟨by rw [shI_op]; exact g1, by omega⟩
        · have := hj g1
          refine .inr ⟨by rw [shI_op]; exact g1, ?_⟩
          rw [shI_n, if_pos g1]; omega
    · exact left i hge i (r1 i hge)
end Go.Proofs.Ytiifbdkedainnaa.AL

/- Plain laws: states, parts and handlers of the stack machine. -/
set_option linter.unusedVariables false
namespace Go.Proofs.Ytiifbdkedainnaa.AL
section
variable {vs : List Vr} {i0 i1 i2 i3 : Int} {l : List Ins} {ht : Nat → Int}
theorem trace_law {P : Cf → Prop} (hc : Cert l vs.length ht) (hi : ∀ j, isV (inS i0 i1 i2 i3 j))
    (hP : ∀ c c' x, l[c.at']? = some x → CfOk vs c → At vs l.length x c → P c → stepS vs i0 i1 i2 i3 x c = .ok c' → P c') :
    ∀ (f : Nat) (c : Cf) (n : Nat), CfOk vs c → (c.stk.length : Int) = ht c.at' → c.at' ≤ l.length → n ≤ c.at' → P c → l.length < f + c.at' →
      (∀ s, (traceS vs i0 i1 i2 i3 l f c n).1 = .ok s → ∃ c', c'.now = s ∧ CfOk vs c' ∧ P c') ∧ (∀ e, (traceS vs i0 i1 i2 i3 l f c n).1 = .error e → e = 3 ∨ e = 14 ∨ e = 15) ∧
        (traceS vs i0 i1 i2 i3 l f c n).2 ≤ l.length ∧ n ≤ (traceS vs i0 i1 i2 i3 l f c n).2 ∧ ∀ x, l[c.at']? = some x → n + 1 ≤ (traceS vs i0 i1 i2 i3 l f c n).2
  | 0, c, n, h1, h2, h3, h4, h5, h6 => by omega
  | f + 1, c, n, h1, h2, h3, h4, h5, h6 => by
    cases hx : l[c.at']? with
    | none =>
      rw [trace_none hx]
      refine ⟨fun s e => ⟨c, Except.ok.inj e, h1, h5⟩, fun e h => (by cases h), by dsimp only; omega, Nat.le_refl _, fun x h => by cases h⟩
    | some x =>
      have hlt := (List.getElem?_eq_some_iff.1 hx).1
      cases hs : stepS vs i0 i1 i2 i3 x c with
      | error e =>
        rw [trace_err hx hs]
        refine ⟨fun s h => (by cases h), fun e' h => ?_, by dsimp only; omega, by dsimp only; omega, fun _ _ => Nat.le_refl _⟩
        obtain rfl : e = e' := by simpa using h
        exact stepS_err hs (cert_At hc hx h2)
      | ok c' =>
        rw [trace_ok hx hs]
        obtain ⟨a1, a2, a3, a4⟩ := stepS_cert hc hx h1 h2 hi hs
        obtain ⟨b1, b2, b3, b4, b5⟩ := trace_law hc hi hP f c' (n + 1) a1 a2 a4 (by omega) (hP c c' x hx h1 (cert_At hc hx h2) h5 hs) (by omega)
        exact ⟨b1, b2, b3, by omega, fun _ _ => b4⟩
theorem stOk_set : ∀ {vs : List Vr} {st : List Int} {k : Nat} {v : Vr} {n : Int}, stOk vs st = true → vs[k]? = some v → isV n → v.low ≤ n → n ≤ v.high → stOk vs (st.set k n) = true
  | v :: vs, m :: ns, 0, _, _, h, hv, h1, h2, h3 => by
    simp only [stOk, Bool.and_eq_true, decide_eq_true_eq] at h
    simp only [List.getElem?_cons_zero, Option.some.injEq] at hv
    subst hv
    simp only [List.set_cons_zero, stOk, Bool.and_eq_true, decide_eq_true_eq]
    exact ⟨⟨h1.1, h1.2, h2, h3⟩, h.2⟩
  | v :: vs, m :: ns, k + 1, _, _, h, hv, h1, h2, h3 => by
    simp only [stOk, Bool.and_eq_true, decide_eq_true_eq] at h
    simp only [List.getElem?_cons_succ] at hv
    simp only [List.set_cons_succ, stOk, Bool.and_eq_true, decide_eq_true_eq]
    exact ⟨h.1, stOk_set h.2 hv h1 h2 h3⟩
  | [], [], k, _, _, _, hv, _, _, _ => by simp at hv
  | [], _ :: _, k, _, _, h, _, _, _, _ => by simp [stOk] at h
  | _ :: _, [], k, _, _, h, _, _, _, _ => by simp [stOk] at h
/-- Is a variable stored? -/
def storedS (l : List Ins) (i : Nat) : Prop := ∃ x ∈ l, x.op = 11 ∧ x.n = i
theorem stepS_state {st : List Int} {c c' : Cf} {x : Ins} (hx : x ∈ l) (hk : CfOk vs c) (ha : At vs l.length x c) (h1 : stOk vs c.now = true) (h2 : ∀ i, ¬ storedS l i → c.now[i]? = st[i]?) (hs : stepS vs i0 i1 i2 i3 x c = .ok c') :
    stOk vs c'.now = true ∧ ∀ i, ¬ storedS l i → c'.now[i]? = st[i]? := by
  have hok := ha.ok
  have htk := ha.tk
  unfold stepS at hs
  repeat' split at hs
  all_goals first | (cases hs; done) | (cases hs; exact ⟨h1, h2⟩) | skip
  rename_i q1 q2 q3 q11 _ vr hv hb
  cases hs
  have htk' : 1 ≤ c.stk.length := by simp [takes, q11] at htk; omega
  have hm := hk.stkV _ (getD_mem (l := c.stk) (k := c.stk.length - 1) (by omega))
  refine ⟨stOk_set h1 hv hm hb.1 hb.2, fun i hi => ?_⟩
  dsimp only
  rw [List.getElem?_set_ne]
  · exact h2 i hi
  · intro e
    have hn : 0 ≤ x.n := by unfold insOk at hok; simp [q11] at hok; omega
    exact hi ⟨x, hx, q11, by omega⟩
theorem run_states {vs : List Vr} {c : Cod} {st : List Int} {x : Cal} (h : fitsS vs c st x = true) :
    (∀ s, (runS vs c st x).1 = .ok s → stOk vs s = true ∧ ∀ i, ¬ storedS (hand c x.ev) i → s[i]? = st[i]?) ∧ (∀ e, (runS vs c st x).1 = .error e → e = 3 ∨ e = 14 ∨ e = 15) ∧
      (runS vs c st x).2 ≤ (hand c x.ev).length ∧ (1 ≤ (runS vs c st x).2 ∨ (hand c x.ev).length = 0) := by
  obtain ⟨f1, f2, f3⟩ := fits_all h
  obtain ⟨e1, e2⟩ := call_ev f3
  obtain ⟨ht, hc⟩ := verH_cert (hand_ver f1 e1 e2)
  obtain ⟨b1, b2, b3, b4, b5⟩ := trace_law (P := fun c' => stOk vs c'.now = true ∧ ∀ i, ¬ storedS (hand c x.ev) i → c'.now[i]? = st[i]?) hc (call_in f3)
    (fun c1 c2 y hy hk ha hp hs => stepS_state (List.mem_of_getElem? hy) hk ha hp.1 hp.2 hs) ((hand c x.ev).length + 1) ⟨st, [], 0⟩ 0 ⟨stOk_len f2, stOk_isV f2, fun _ h => by cases h⟩ (by simp [hc.zero]) (Nat.zero_le _) (Nat.le_refl _) ⟨f2, fun _ _ => rfl⟩ (by simp)
  refine ⟨fun s hs => ?_, b2, b3, ?_⟩
  · obtain ⟨c', rfl, _, q⟩ := b1 s hs
    exact q
  · cases hl : (hand c x.ev)[0]? with
    | none => right; simpa using hl
    | some y => left; exact b5 y hl
theorem trace_fuel (hc : Cert l vs.length ht) (hi : ∀ j, isV (inS i0 i1 i2 i3 j)) : ∀ (f g : Nat) (c : Cf) (n : Nat), CfOk vs c → (c.stk.length : Int) = ht c.at' → c.at' ≤ l.length → l.length < f + c.at' → l.length < g + c.at' →
    traceS vs i0 i1 i2 i3 l f c n = traceS vs i0 i1 i2 i3 l g c n
  | 0, g, c, n, h1, h2, h3, h4, h5 => by omega
  | f + 1, 0, c, n, h1, h2, h3, h4, h5 => by omega
  | f + 1, g + 1, c, n, h1, h2, h3, h4, h5 => by
    cases hx : l[c.at']? with
    | none => rw [trace_none hx, trace_none hx]
    | some x =>
      cases hs : stepS vs i0 i1 i2 i3 x c with
      | error e => rw [trace_err hx hs, trace_err hx hs]
      | ok c' =>
        rw [trace_ok hx hs, trace_ok hx hs]
        obtain ⟨a1, a2, a3, a4⟩ := stepS_cert hc hx h1 h2 hi hs
        exact trace_fuel hc hi f g c' (n + 1) a1 a2 a4 (by omega) (by omega)
theorem stepS_sh {k : Nat} {x : Ins} {c : Cf} (hn : x.op = 12 ∨ x.op = 13 → 0 ≤ x.n) :
    stepS vs i0 i1 i2 i3 (shI k x) ⟨c.now, c.stk, k + c.at'⟩ = match stepS vs i0 i1 i2 i3 x c with
      | .ok c' => .ok ⟨c'.now, c'.stk, k + c'.at'⟩
      | .error e => .error e := by
  have ho : (shI k x).op = x.op := shI_op _ _
  have hr : (shI k x).rel = x.rel := shI_rel _ _
  unfold stepS
  rw [ho, hr]
  by_cases h1 : x.op = 1
  · simp only [if_pos h1, shI_n, if_neg (show ¬ (x.op = 12 ∨ x.op = 13) by omega), Nat.add_assoc]
  by_cases h2 : x.op = 2
  · simp only [if_neg h1, if_pos h2, shI_n, if_neg (show ¬ (x.op = 12 ∨ x.op = 13) by omega), Nat.add_assoc]
  by_cases h3 : x.op = 3
  · simp only [if_neg h1, if_neg h2, if_pos h3, shI_n, if_neg (show ¬ (x.op = 12 ∨ x.op = 13) by omega), Nat.add_assoc]
  by_cases h11 : x.op = 11
  · simp only [if_neg h1, if_neg h2, if_neg h3, if_pos h11, shI_n, if_neg (show ¬ (x.op = 12 ∨ x.op = 13) by omega)]
    cases vs[x.n.toNat]? with
    | none => rfl
    | some v => dsimp only; split <;> simp [Nat.add_assoc]
  by_cases h12 : x.op = 12
  · have := hn (.inl h12)
    simp only [if_neg h1, if_neg h2, if_neg h3, if_neg h11, if_pos h12, shI_n, if_pos (show (x.op = 12 ∨ x.op = 13) from .inl h12)]
    congr 2
    split <;> omega
  by_cases h13 : x.op = 13
  · have := hn (.inr h13)
    simp only [if_neg h1, if_neg h2, if_neg h3, if_neg h11, if_neg h12, if_pos h13, shI_n, if_pos (show (x.op = 12 ∨ x.op = 13) from .inr h13)]
    congr 2
    omega
  · simp only [if_neg h1, if_neg h2, if_neg h3, if_neg h11, if_neg h12, if_neg h13]
    cases calcS x.op (c.stk.getD (c.stk.length - 2) 0) (c.stk.getD (c.stk.length - 1) 0) with
    | ok v => simp [Nat.add_assoc]
    | error e => rfl
theorem trace_right {a b : List Ins} (hn : ∀ x ∈ b, x.op = 12 ∨ x.op = 13 → 0 ≤ x.n) (m : Nat) : ∀ (f : Nat) (c : Cf) (n : Nat),
    traceS vs i0 i1 i2 i3 (joinS a b) f ⟨c.now, c.stk, a.length + c.at'⟩ (m + n) = ((traceS vs i0 i1 i2 i3 b f c n).1, m + (traceS vs i0 i1 i2 i3 b f c n).2)
  | 0, c, n => rfl
  | f + 1, c, n => by
    cases hx : b[c.at']? with
    | none => rw [trace_none hx, trace_none (by dsimp only; rw [joinS_right, hx]; rfl)]
    | some x =>
      have hx' : (joinS a b)[a.length + c.at']? = some (shI a.length x) := by rw [joinS_right, hx]; rfl
      have hs' := stepS_sh (vs := vs) (i0 := i0) (i1 := i1) (i2 := i2) (i3 := i3) (k := a.length) (c := c) (hn x (List.mem_of_getElem? hx))
      cases hs : stepS vs i0 i1 i2 i3 x c with
      | error e =>
        rw [hs] at hs'
        rw [trace_err hx hs, trace_err hx' hs']; rfl
      | ok c' =>
        rw [hs] at hs'
        rw [trace_ok hx hs, trace_ok hx' hs']
        exact trace_right hn m f c' (n + 1)
theorem trace_left {a b : List Ins} {hta htb : Nat → Int} (hca : Cert a vs.length hta) (hcb : Cert b vs.length htb) (hi : ∀ j, isV (inS i0 i1 i2 i3 j)) (hn : ∀ x ∈ b, x.op = 12 ∨ x.op = 13 → 0 ≤ x.n) :
    ∀ (fa f : Nat) (c : Cf) (n : Nat), CfOk vs c → (c.stk.length : Int) = hta c.at' → c.at' ≤ a.length → a.length < fa + c.at' → a.length + b.length < f + c.at' →
      (∀ e, (traceS vs i0 i1 i2 i3 a fa c n).1 = .error e → traceS vs i0 i1 i2 i3 (joinS a b) f c n = traceS vs i0 i1 i2 i3 a fa c n) ∧
        ∀ s, (traceS vs i0 i1 i2 i3 a fa c n).1 = .ok s → traceS vs i0 i1 i2 i3 (joinS a b) f c n = ((traceS vs i0 i1 i2 i3 b (b.length + 1) ⟨s, [], 0⟩ 0).1, (traceS vs i0 i1 i2 i3 a fa c n).2 + (traceS vs i0 i1 i2 i3 b (b.length + 1) ⟨s, [], 0⟩ 0).2)
  | 0, f, c, n, h1, h2, h3, h4, h5 => by omega
  | fa + 1, 0, c, n, h1, h2, h3, h4, h5 => by omega
  | fa + 1, f + 1, c, n, h1, h2, h3, h4, h5 => by
    cases hx : a[c.at']? with
    | none =>
      have he : c.at' = a.length := by
        have := List.getElem?_eq_none_iff.1 hx; omega
      have hs0 : c.stk = [] := by
        rw [he, hca.last] at h2
        exact List.eq_nil_of_length_eq_zero (by omega)
      rw [trace_none hx]
      refine ⟨fun e h => (by cases h), fun s h => ?_⟩
      obtain rfl : c.now = s := by simpa using h
      have hr := trace_right (vs := vs) (i0 := i0) (i1 := i1) (i2 := i2) (i3 := i3) (a := a) hn n (f + 1) ⟨c.now, [], 0⟩ 0
      have hc' : c = ⟨c.now, [], a.length⟩ := by cases c; simp only at he hs0; simp [he, hs0]
      simp only [Nat.add_zero] at hr
      rw [← hc'] at hr
      rw [hr, trace_fuel hcb hi (f + 1) (b.length + 1) ⟨c.now, [], 0⟩ 0 ⟨h1.now, h1.nowV, fun _ h => by cases h⟩ (by simp [hcb.zero]) (Nat.zero_le _) (by dsimp only; omega) (by dsimp only; omega)]
    | some x =>
      have hlt := (List.getElem?_eq_some_iff.1 hx).1
      have hx' : (joinS a b)[c.at']? = some x := by rw [joinS_left hlt]; exact hx
      cases hs : stepS vs i0 i1 i2 i3 x c with
      | error e =>
        rw [trace_err hx hs, trace_err hx' hs]
        exact ⟨fun _ _ => rfl, fun s h => by cases h⟩
      | ok c' =>
        rw [trace_ok hx hs, trace_ok hx' hs]
        obtain ⟨a1, a2, a3, a4⟩ := stepS_cert hca hx h1 h2 hi hs
        exact trace_left hca hcb hi hn fa f c' (n + 1) a1 a2 a4 (by omega) (by omega)
end
/-- Code with another handler. -/
def setHand (c : Cod) (ev : Int) (l : List Ins) : Cod := if ev = 0 then { c with c0 := l } else if ev = 1 then { c with c1 := l } else if ev = 2 then { c with c2 := l } else if ev = 3 then { c with c3 := l } else { c with c4 := l }
theorem hand_set {c : Cod} {ev : Int} {l : List Ins} : hand (setHand c ev l) ev = l := by
  unfold hand setHand
  by_cases h0 : ev = 0
  · simp [h0]
  by_cases h1 : ev = 1
  · simp [h1]
  by_cases h2 : ev = 2
  · simp [h2]
  by_cases h3 : ev = 3
  · simp [h3]
  · simp [h0, h1, h2, h3]
theorem verC_set {c : Cod} {ev vars : Int} {l : List Ins} (h : verC c vars = true) (hl : verH l vars = true) : verC (setHand c ev l) vars = true := by
  unfold verC at h ⊢
  simp only [Bool.and_eq_true, decide_eq_true_eq] at h
  obtain ⟨h', h0, h1, h2, h3, h4⟩ := h
  unfold setHand
  repeat' split
  all_goals simp only [Bool.and_eq_true, decide_eq_true_eq]
  all_goals exact ⟨h', by assumption, by assumption, by assumption, by assumption, by assumption⟩
def c0Cod : Cod := ⟨[], [], [], [], []⟩
theorem verH_nil (vars : Int) : verH [] vars = true := by simp [verH, hLoop]
theorem verC_nil {vars : Int} (h : 0 ≤ vars ∧ vars ≤ 12) : verC c0Cod vars = true := by
  unfold verC c0Cod
  simp only [verH_nil, Bool.and_true, decide_eq_true_eq]
  exact h
theorem run_parts {vs : List Vr} {c d : Cod} {st : List Int} {x : Cal} (h : fitsS vs c st x = true) (hd : verC d vs.length = true) (hl : (hand c x.ev).length + (hand d x.ev).length ≤ 4000) :
    fitsS vs (setHand c x.ev (joinS (hand c x.ev) (hand d x.ev))) st x = true ∧
      (∀ e, (runS vs c st x).1 = .error e → runS vs (setHand c x.ev (joinS (hand c x.ev) (hand d x.ev))) st x = runS vs c st x) ∧
      (∀ s, (runS vs c st x).1 = .ok s → fitsS vs d s x = true ∧ runS vs (setHand c x.ev (joinS (hand c x.ev) (hand d x.ev))) st x = ((runS vs d s x).1, (runS vs c st x).2 + (runS vs d s x).2)) := by
  obtain ⟨f1, f2, f3⟩ := fits_all h
  obtain ⟨e1, e2⟩ := call_ev f3
  have va := hand_ver f1 e1 e2
  have vb := hand_ver hd e1 e2
  obtain ⟨hta, hca⟩ := verH_cert va
  obtain ⟨htb, hcb⟩ := verH_cert vb
  have hn : ∀ y ∈ hand d x.ev, y.op = 12 ∨ y.op = 13 → 0 ≤ y.n := by
    intro y hy ho
    obtain ⟨i, hi⟩ := List.getElem?_of_mem hy
    have := insOk_jump (hcb.at' _ _ hi).ok ho
    omega
  have ⟨t1, t2⟩ := trace_left hca hcb (call_in f3) hn ((hand c x.ev).length + 1) ((joinS (hand c x.ev) (hand d x.ev)).length + 1) ⟨st, [], 0⟩ 0 ⟨stOk_len f2, stOk_isV f2, fun _ h => by cases h⟩ (by simp [hca.zero]) (Nat.zero_le _) (by simp) (by rw [joinS_len]; simp)
  refine ⟨?_, fun e he => ?_, fun s hs => ⟨?_, ?_⟩⟩
  · simp only [fitsS, verC_set f1 (verH_join va vb hl), f2, f3, Bool.and_self]
  · unfold runS at he ⊢
    rw [hand_set]
    exact t1 e he
  · simp only [fitsS, hd, ((run_states h).1 s hs).1, f3, Bool.and_self]
  · unfold runS at hs ⊢
    rw [hand_set]
    exact t2 s hs
theorem run_alone {vs : List Vr} {c : Cod} {st : List Int} {x : Cal} (h : fitsS vs c st x = true) :
    fitsS vs (setHand c0Cod x.ev (hand c x.ev)) st x = true ∧ runS vs (setHand c0Cod x.ev (hand c x.ev)) st x = runS vs c st x := by
  obtain ⟨f1, f2, f3⟩ := fits_all h
  obtain ⟨e1, e2⟩ := call_ev f3
  refine ⟨?_, ?_⟩
  · simp only [fitsS, verC_set (verC_nil (verC_vars f1)) (hand_ver f1 e1 e2), f2, f3, Bool.and_self]
  · unfold runS; rw [hand_set]
end Go.Proofs.Ytiifbdkedainnaa.AL

/- Plain laws: the code of programs. -/
set_option linter.unusedVariables false
namespace Go.Proofs.Ytiifbdkedainnaa.AL
mutual
def codeE : Ex → List Ins
  | .mk op n _ kids => match kids with
    | [] => [⟨op, n, 0⟩]
    | k :: ks => codeEs (k :: ks) ++ [⟨op, 0, 0⟩]
def codeEs : List Ex → List Ins
  | [] => []
  | e :: es => codeE e ++ codeEs es
end
mutual
/-- The code of statements whose first instruction has an index. -/
def codeS : St → Nat → List Ins
  | .mk kind var rel a b t e, at' =>
    if kind = 1 then codeE a ++ [⟨11, var, 0⟩] else
    match e with
    | [] => codeE a ++ codeE b ++ [⟨12, ((at' + (codeE a).length + (codeE b).length + 1 + (codeSs t (at' + (codeE a).length + (codeE b).length + 1)).length : Nat) : Int), rel⟩] ++ codeSs t (at' + (codeE a).length + (codeE b).length + 1)
    | s :: ss =>
      codeE a ++ codeE b ++ [⟨12, ((at' + (codeE a).length + (codeE b).length + 1 + (codeSs t (at' + (codeE a).length + (codeE b).length + 1)).length + 1 : Nat) : Int), rel⟩] ++ codeSs t (at' + (codeE a).length + (codeE b).length + 1) ++
        [⟨13, ((at' + (codeE a).length + (codeE b).length + 1 + (codeSs t (at' + (codeE a).length + (codeE b).length + 1)).length + 1 + (codeSs (s :: ss) (at' + (codeE a).length + (codeE b).length + 1 + (codeSs t (at' + (codeE a).length + (codeE b).length + 1)).length + 1)).length : Nat) : Int), 0⟩] ++
        codeSs (s :: ss) (at' + (codeE a).length + (codeE b).length + 1 + (codeSs t (at' + (codeE a).length + (codeE b).length + 1)).length + 1)
def codeSs : List St → Nat → List Ins
  | [], _ => []
  | s :: ss, at' => codeS s at' ++ codeSs ss (at' + (codeS s at').length)
end
end Go.Proofs.Ytiifbdkedainnaa.AL

/- Plain laws: the code of a valid program is valid: pieces of code, and the heights of the stack in them. -/
set_option linter.unusedVariables false
namespace Go.Proofs.Ytiifbdkedainnaa.AL
/-- A piece of code behind so many instructions: it comes from one height to another. -/
structure SegAt (len vars : Int) (off n : Nat) (ht : Nat → Int) (x : Ins) (i : Nat) : Prop where
  ok : insOk x (off + i : Nat) len vars = true
  tk : takes x.op ≤ ht i
  pt : ht i - takes x.op + puts x.op ≤ 64
  nxt : x.op ≠ 13 → ht (i + 1) = ht i - takes x.op + puts x.op
  jmp : x.op = 12 ∨ x.op = 13 → ∃ j, j ≤ n ∧ x.n = (off + j : Nat) ∧ ht j = ht i - takes x.op + puts x.op
def Seg (len vars : Int) (off : Nat) (c : List Ins) (h0 h1 : Int) : Prop :=
  ∃ ht : Nat → Int, ht 0 = h0 ∧ ht c.length = h1 ∧ (∀ i x, c[i]? = some x → SegAt len vars off c.length ht x i) ∧
    ∀ i, i ≤ c.length → i = 0 ∨ ∃ k x, k < i ∧ c[k]? = some x ∧ leads x (off + k) (off + i)
section
variable {len vars : Int}
theorem Seg.nil {off : Nat} {h : Int} : Seg len vars off [] h h :=
  ⟨fun _ => h, rfl, rfl, by simp, fun i hi => .inl (by simpa using hi)⟩
theorem Seg.app {off : Nat} {a b : List Ins} {h0 h1 h2 : Int} (A : Seg len vars off a h0 h1) (B : Seg len vars (off + a.length) b h1 h2) : Seg len vars off (a ++ b) h0 h2 := by
  obtain ⟨f, f0, f1, fc, fr⟩ := A
  obtain ⟨g, g0, g1, gc, gr⟩ := B
  refine ⟨fun j => if j ≤ a.length then f j else g (j - a.length), by simp [f0], ?_, ?_, ?_⟩
  · simp only [List.length_append]
    split
    · have : b.length = 0 := by omega
      rw [this, Nat.add_zero, f1, ← g0, ← g1, this]
    · rw [Nat.add_sub_cancel_left, g1]
  · intro i x hx
    rcases Nat.lt_or_ge i a.length with hlt | hge
    · rw [List.getElem?_append_left hlt] at hx
      obtain ⟨c1, c2, c3, c4, c5⟩ := fc i x hx
      refine ⟨c1, ?_, ?_, fun h => ?_, fun h => ?_⟩
      · simp only [if_pos (Nat.le_of_lt hlt)]; exact c2
      · simp only [if_pos (Nat.le_of_lt hlt)]; exact c3
      · simp only [if_pos (Nat.le_of_lt hlt), if_pos (show i + 1 ≤ a.length from hlt)]; exact c4 h
      · obtain ⟨j, j1, j2, j3⟩ := c5 h
        refine ⟨j, by rw [List.length_append]; omega, j2, ?_⟩
        simp only [if_pos (Nat.le_of_lt hlt), if_pos j1]; exact j3
    · obtain ⟨k, rfl⟩ : ∃ k, i = a.length + k := ⟨i - a.length, by omega⟩
      rw [List.getElem?_append_right (by omega), Nat.add_sub_cancel_left] at hx
      obtain ⟨c1, c2, c3, c4, c5⟩ := gc k x hx
      have e0 : (if a.length + k ≤ a.length then f (a.length + k) else g (a.length + k - a.length)) = g k := by
        split
        · have : k = 0 := by omega
          subst this; rw [Nat.add_zero, f1, g0]
        · rw [Nat.add_sub_cancel_left]
      have ej : ∀ j, (if a.length + j ≤ a.length then f (a.length + j) else g (a.length + j - a.length)) = g j := by
        intro j
        split
        · have : j = 0 := by omega
          subst this; rw [Nat.add_zero, f1, g0]
        · rw [Nat.add_sub_cancel_left]
      refine ⟨by rw [← Nat.add_assoc]; exact c1, ?_, ?_, fun h => ?_, fun h => ?_⟩
      · rw [e0]; exact c2
      · rw [e0]; exact c3
      · rw [e0, Nat.add_assoc, ej]; exact c4 h
      · obtain ⟨j, j1, j2, j3⟩ := c5 h
        refine ⟨a.length + j, by rw [List.length_append]; omega, by rw [j2]; congr 1; omega, ?_⟩
        rw [e0, ej]; exact j3
  · intro i hi
    rw [List.length_append] at hi
    have left : i ≤ a.length → i = 0 ∨ ∃ k x, k < i ∧ (a ++ b)[k]? = some x ∧ leads x (off + k) (off + i) := by
      intro hle
      rcases fr i hle with h | ⟨k, x, q1, q2, q3⟩
      · exact .inl h
      · exact .inr ⟨k, x, q1, by rw [List.getElem?_append_left (by omega)]; exact q2, q3⟩
    rcases Nat.lt_or_ge a.length i with hlt | hge
    · obtain ⟨k, rfl⟩ : ∃ k, i = a.length + k := ⟨i - a.length, by omega⟩
      rcases gr k (by omega) with h | ⟨m, x, q1, q2, q3⟩
      · omega
      · exact .inr ⟨a.length + m, x, by omega, by rw [List.getElem?_append_right (by omega), Nat.add_sub_cancel_left]; exact q2, by rw [← Nat.add_assoc, ← Nat.add_assoc]; exact q3⟩
    · exact left hge
/-- One instruction that goes on. -/
theorem Seg.one {off : Nat} {x : Ins} {h : Int} (ok : insOk x off len vars = true) (n12 : x.op ≠ 12) (n13 : x.op ≠ 13) (tk : takes x.op ≤ h) (pt : h - takes x.op + puts x.op ≤ 64) :
    Seg len vars off [x] h (h - takes x.op + puts x.op) := by
  refine ⟨fun j => if j = 0 then h else h - takes x.op + puts x.op, rfl, rfl, ?_, ?_⟩
  · intro i y hy
    have : i = 0 := by have := (List.getElem?_eq_some_iff.1 hy).1; simp at this; omega
    subst this
    simp only [List.getElem?_cons_zero, Option.some.injEq] at hy
    subst hy
    exact ⟨ok, tk, pt, fun _ => rfl, fun hh => by rcases hh with hh | hh <;> contradiction⟩
  · intro i hi
    simp only [List.length_cons, List.length_nil] at hi
    by_cases h0 : i = 0
    · exact .inl h0
    · have : i = 1 := by omega
      subst this
      exact .inr ⟨0, x, by omega, rfl, .inl ⟨n13, rfl⟩⟩
/-- A test, and what is done if it holds. -/
theorem Seg.cond {off : Nat} {T : List Ins} {rel h : Int} (hr : 1 ≤ rel ∧ rel ≤ 6) (hl : ((off + 1 + T.length : Nat) : Int) ≤ len) (hh : 0 ≤ h ∧ h ≤ 64) (S : Seg len vars (off + 1) T h h) :
    Seg len vars off (⟨12, ((off + 1 + T.length : Nat) : Int), rel⟩ :: T) (h + 2) h := by
  obtain ⟨g, g0, g1, gc, gr⟩ := S
  refine ⟨fun j => match j with | 0 => h + 2 | j + 1 => g j, rfl, by simpa using g1, ?_, ?_⟩
  · intro i x hx
    cases i with
    | zero =>
      simp only [List.getElem?_cons_zero, Option.some.injEq] at hx
      subst hx
      refine ⟨?_, by simp [takes]; omega, by simp [takes, puts]; omega, fun _ => ?_, fun _ => ⟨T.length + 1, by simp, ?_, ?_⟩⟩
      · unfold insOk; simp; omega
      · simp only [takes, puts]; simp [g0]
      · simp; omega
      · simp only [takes, puts]; simp [g1]
    | succ i =>
      simp only [List.getElem?_cons_succ] at hx
      obtain ⟨c1, c2, c3, c4, c5⟩ := gc i x hx
      refine ⟨by rw [show off + (i + 1) = off + 1 + i by omega]; exact c1, c2, c3, c4, fun hj => ?_⟩
      obtain ⟨j, j1, j2, j3⟩ := c5 hj
      exact ⟨j + 1, by simp; omega, by rw [j2]; congr 1; omega, j3⟩
  · intro i hi
    cases i with
    | zero => exact .inl rfl
    | succ i =>
      simp only [List.length_cons] at hi
      rcases gr i (by omega) with h | ⟨k, x, q1, q2, q3⟩
      · subst h
        exact .inr ⟨0, _, by omega, rfl, .inl ⟨by simp, by omega⟩⟩
      · exact .inr ⟨k + 1, x, by omega, by simpa using q2, by rw [show off + (k + 1) = off + 1 + k by omega, show off + (i + 1) = off + 1 + i by omega]; exact q3⟩
end
end Go.Proofs.Ytiifbdkedainnaa.AL

/- Plain laws: the code of statements is valid. -/
set_option linter.unusedVariables false
namespace Go.Proofs.Ytiifbdkedainnaa.AL
section
variable {len vars : Int}
/-- A test, what is done if it holds, and what is done otherwise. -/
theorem Seg.both {off : Nat} {T E : List Ins} {rel h : Int} (hr : 1 ≤ rel ∧ rel ≤ 6) (hl : ((off + 1 + T.length + 1 + E.length : Nat) : Int) ≤ len) (hE : E ≠ []) (hh : 0 ≤ h ∧ h ≤ 64)
    (ST : Seg len vars (off + 1) T h h) (SE : Seg len vars (off + 1 + T.length + 1) E h h) :
    Seg len vars off (⟨12, ((off + 1 + T.length + 1 : Nat) : Int), rel⟩ :: (T ++ ⟨13, ((off + 1 + T.length + 1 + E.length : Nat) : Int), 0⟩ :: E)) (h + 2) h := by
  obtain ⟨f, f0, f1, fc, fr⟩ := ST
  obtain ⟨g, g0, g1, gc, gr⟩ := SE
  have hEl : 0 < E.length := List.length_pos_iff.2 hE
  have gT : ∀ i, i < T.length → (⟨12, ((off + 1 + T.length + 1 : Nat) : Int), rel⟩ :: (T ++ ⟨13, ((off + 1 + T.length + 1 + E.length : Nat) : Int), 0⟩ :: E) : List Ins)[1 + i]? = T[i]? := by
    intro i hi
    rw [Nat.add_comm 1 i, List.getElem?_cons_succ, List.getElem?_append_left hi]
  have gJ : (⟨12, ((off + 1 + T.length + 1 : Nat) : Int), rel⟩ :: (T ++ ⟨13, ((off + 1 + T.length + 1 + E.length : Nat) : Int), 0⟩ :: E) : List Ins)[1 + T.length]? = some ⟨13, ((off + 1 + T.length + 1 + E.length : Nat) : Int), 0⟩ := by
    rw [Nat.add_comm 1 T.length, List.getElem?_cons_succ, List.getElem?_append_right (Nat.le_refl _), Nat.sub_self]; rfl
  have gE : ∀ i, (⟨12, ((off + 1 + T.length + 1 : Nat) : Int), rel⟩ :: (T ++ ⟨13, ((off + 1 + T.length + 1 + E.length : Nat) : Int), 0⟩ :: E) : List Ins)[1 + T.length + 1 + i]? = E[i]? := by
    intro i
    rw [show 1 + T.length + 1 + i = (T.length + (1 + i)) + 1 by omega, List.getElem?_cons_succ, List.getElem?_append_right (by omega), Nat.add_sub_cancel_left, Nat.add_comm 1 i, List.getElem?_cons_succ]
  have tot : (⟨12, ((off + 1 + T.length + 1 : Nat) : Int), rel⟩ :: (T ++ ⟨13, ((off + 1 + T.length + 1 + E.length : Nat) : Int), 0⟩ :: E) : List Ins).length = 1 + T.length + 1 + E.length := by
    simp only [List.length_cons, List.length_append]; omega
  have split3 : ∀ i, i < 1 + T.length + 1 + E.length → i = 0 ∨ (∃ j, j < T.length ∧ i = 1 + j) ∨ i = 1 + T.length ∨ ∃ j, j < E.length ∧ i = 1 + T.length + 1 + j := by
    intro i hi
    by_cases h0 : i = 0
    · exact .inl h0
    by_cases h1 : i < 1 + T.length
    · exact .inr (.inl ⟨i - 1, by omega, by omega⟩)
    by_cases h2 : i = 1 + T.length
    · exact .inr (.inr (.inl h2))
    · exact .inr (.inr (.inr ⟨i - (1 + T.length + 1), by omega, by omega⟩))
  -- the heights
  let H : Nat → Int := fun j => if j = 0 then h + 2 else if j ≤ 1 + T.length then f (j - 1) else g (j - (1 + T.length + 1))
  have H0 : H 0 = h + 2 := rfl
  have HT : ∀ j, j ≤ T.length → H (1 + j) = f j := by
    intro j hj
    simp only [H, if_neg (show ¬ 1 + j = 0 by omega), if_pos (show 1 + j ≤ 1 + T.length by omega), Nat.add_sub_cancel_left]
  have HE : ∀ j, H (1 + T.length + 1 + j) = g j := by
    intro j
    simp only [H, if_neg (show ¬ 1 + T.length + 1 + j = 0 by omega), if_neg (show ¬ 1 + T.length + 1 + j ≤ 1 + T.length by omega), Nat.add_sub_cancel_left]
  refine ⟨H, H0, by rw [tot, HE, g1], ?_, ?_⟩
  · intro i x hx
    have hi := (List.getElem?_eq_some_iff.1 hx).1
    rw [tot] at hi
    rcases split3 i hi with rfl | ⟨j, hj, rfl⟩ | rfl | ⟨j, hj, rfl⟩
    · simp only [List.getElem?_cons_zero, Option.some.injEq] at hx
      subst hx
      refine ⟨?_, by rw [H0]; simp [takes]; omega, by rw [H0]; simp [takes, puts]; omega, fun _ => ?_, fun _ => ⟨1 + T.length + 1, by rw [tot]; omega, ?_, ?_⟩⟩
      · unfold insOk; simp; omega
      · rw [H0, show (0 + 1 : Nat) = 1 + 0 from rfl, HT 0 (Nat.zero_le _), f0]; simp [takes, puts]
      · dsimp only; omega
      · rw [H0, show 1 + T.length + 1 = 1 + T.length + 1 + 0 from rfl, HE 0, g0]; simp [takes, puts]
    · rw [gT j hj] at hx
      obtain ⟨c1, c2, c3, c4, c5⟩ := fc j x hx
      refine ⟨by rw [show off + (1 + j) = off + 1 + j by omega]; exact c1, by rw [HT j (by omega)]; exact c2, by rw [HT j (by omega)]; exact c3, fun hn => ?_, fun hn => ?_⟩
      · rw [HT j (by omega), Nat.add_assoc, HT (j + 1) (by omega)]; exact c4 hn
      · obtain ⟨k, k1, k2, k3⟩ := c5 hn
        exact ⟨1 + k, by rw [tot]; omega, by rw [k2]; congr 1; omega, by rw [HT j (by omega), HT k k1]; exact k3⟩
    · rw [gJ] at hx
      simp only [Option.some.injEq] at hx
      subst hx
      refine ⟨?_, by rw [HT _ (Nat.le_refl _), f1]; simp [takes]; omega, by rw [HT _ (Nat.le_refl _), f1]; simp [takes, puts]; omega, fun hn => absurd rfl hn, fun _ => ⟨1 + T.length + 1 + E.length, by rw [tot]; omega, ?_, ?_⟩⟩
      · unfold insOk; simp; omega
      · dsimp only; omega
      · rw [HE, g1, HT _ (Nat.le_refl _), f1]; simp [takes, puts]
    · rw [gE j] at hx
      obtain ⟨c1, c2, c3, c4, c5⟩ := gc j x hx
      refine ⟨by rw [show off + (1 + T.length + 1 + j) = off + 1 + T.length + 1 + j by omega]; exact c1, by rw [HE]; exact c2, by rw [HE]; exact c3, fun hn => ?_, fun hn => ?_⟩
      · rw [HE, Nat.add_assoc (1 + T.length + 1), HE]; exact c4 hn
      · obtain ⟨k, k1, k2, k3⟩ := c5 hn
        exact ⟨1 + T.length + 1 + k, by rw [tot]; omega, by rw [k2]; congr 1; omega, by rw [HE, HE]; exact k3⟩
  · intro i hi
    rw [tot] at hi
    by_cases h0 : i = 0
    · exact .inl h0
    by_cases h1 : i ≤ 1 + T.length
    · obtain ⟨j, rfl⟩ : ∃ j, i = 1 + j := ⟨i - 1, by omega⟩
      rcases fr j (by omega) with h | ⟨k, x, q1, q2, q3⟩
      · subst h
        exact .inr ⟨0, _, by omega, rfl, .inl ⟨by simp, by omega⟩⟩
      · exact .inr ⟨1 + k, x, by omega, by rw [gT k (by omega)]; exact q2, by rw [show off + (1 + k) = off + 1 + k by omega, show off + (1 + j) = off + 1 + j by omega]; exact q3⟩
    · obtain ⟨j, rfl⟩ : ∃ j, i = 1 + T.length + 1 + j := ⟨i - (1 + T.length + 1), by omega⟩
      rcases gr j (by omega) with h | ⟨k, x, q1, q2, q3⟩
      · subst h
        exact .inr ⟨0, _, by omega, rfl, .inr ⟨.inl rfl, by simp; omega⟩⟩
      · exact .inr ⟨1 + T.length + 1 + k, x, by omega, by rw [gE]; exact q2, by rw [show off + (1 + T.length + 1 + k) = off + 1 + T.length + 1 + k by omega, show off + (1 + T.length + 1 + j) = off + 1 + T.length + 1 + j by omega]; exact q3⟩
/-- A whole handler. -/
theorem Seg.ver {c : List Ins} {vars : Int} (S : Seg c.length vars 0 c 0 0) (hl : c.length ≤ 4000) : verH c vars = true := by
  obtain ⟨f, f0, f1, fc, fr⟩ := S
  rw [verH_iff]
  refine ⟨f, ⟨hl, f0, fun i x hx => ?_, f1⟩, fun i hi => ?_⟩
  · obtain ⟨c1, c2, c3, c4, c5⟩ := fc i x hx
    refine ⟨by rw [Nat.zero_add] at c1; exact c1, c2, c3, c4, fun hj => ?_⟩
    obtain ⟨j, j1, j2, j3⟩ := c5 hj
    rw [show x.n.toNat = j by omega]; exact j3
  · rcases fr i hi with h | ⟨k, x, q1, q2, q3⟩
    · exact .inl h
    · exact .inr ⟨k, x, q1, q2, by simpa only [Nat.zero_add] using q3⟩
end
end Go.Proofs.Ytiifbdkedainnaa.AL

/- Plain laws: what the units' check grants, and the code of checked statements. -/
set_option linter.unusedVariables false
namespace Go.Proofs.Ytiifbdkedainnaa.AL
theorem codeE_eq (e : Ex) : codeE e = match e.kids with
    | [] => [⟨e.op, e.n, 0⟩]
    | k :: ks => codeEs (k :: ks) ++ [⟨e.op, 0, 0⟩] := by
  cases e with
  | mk op n u kids => cases kids <;> simp only [codeE, Ex.kids, Ex.op, Ex.n]
theorem codeE_len (e : Ex) : (codeE e).length = nodes e := by
  induction e using Ex.ind with
  | h e ih =>
    rw [codeE_eq, nodes_eq]
    have key : ∀ l : List Ex, (∀ k ∈ l, (codeE k).length = nodes k) → (codeEs l).length = nodesL l := by
      intro l
      induction l with
      | nil => intro _; simp [codeEs, nodesL]
      | cons x xs ihl => intro h; simp only [codeEs, nodesL, List.length_append, h x (by simp), ihl (fun k hk => h k (by simp [hk]))]
    cases hk : e.kids with
    | nil => simp [nodesL]
    | cons k ks =>
      rw [hk] at ih
      simp only [List.length_append, key _ ih, List.length_cons, List.length_nil]; omega
theorem infL_len {vs : List Un} : ∀ {l : List Ex} {us : List Un}, infL vs l = .ok us → us.length = l.length
  | [], us, h => by simp only [infL, Except.ok.injEq] at h; subst h; rfl
  | e :: es, us, h => by
    simp only [infL] at h
    split at h
    · cases h
    · split at h
      · cases h
      · rename_i asx h2
        simp only [Except.ok.injEq] at h; subst h
        simp [infL_len h2]
/-- What the check of an expression grants. -/
theorem inf_grants {vs : List Un} {e : Ex} {u : Un} (h : inf vs e = .ok u) :
    (e.kids = [] ∧ ((e.op = 1 ∧ 0 ≤ e.n ∧ e.n ≤ 1000000000) ∨ (e.op = 2 ∧ 0 ≤ e.n ∧ e.n < vs.length) ∨ (e.op = 3 ∧ 0 ≤ e.n ∧ e.n ≤ 3))) ∨
      ∃ a b x y, e.kids = [a, b] ∧ 4 ≤ e.op ∧ e.op ≤ 10 ∧ inf vs a = .ok x ∧ inf vs b = .ok y := by
  rw [inf_eq] at h
  split at h
  · cases h
  · rename_i l hl
    have hlen := infL_len hl
    match hk : e.kids, l, hlen with
    | [], [], _ =>
      left
      refine ⟨rfl, ?_⟩
      simp only [node, leafS] at h
      repeat' split at h
      all_goals first | (cases h; done) | skip
      all_goals first
        | (exact .inl ⟨by assumption, by omega, by omega⟩)
        | (rename_i hv; have := (List.getElem?_eq_some_iff.1 hv).1; exact .inr (.inl ⟨by assumption, by assumption, by omega⟩))
        | (exact .inr (.inr ⟨by assumption, by omega, by omega⟩))
    | [a, b], [x, y], _ =>
      right
      simp only [node] at h
      split at h
      · rename_i ho
        rw [hk] at hl
        simp only [infL] at hl
        split at hl
        · cases hl
        · rename_i x' hx
          split at hl
          · cases hl
          · rename_i asx h2
            split at h2
            · cases h2
            · rename_i y' hy
              simp only [Except.ok.injEq] at h2 hl
              exact ⟨a, b, x', y', rfl, ho.1, ho.2, hx, hy⟩
      · cases h
    | [a], [x], _ => simp [node] at h
    | a :: b :: c :: r, x :: y :: z :: q, _ => simp [node] at h
theorem codeE_seg {vs : List Un} {len : Int} (e : Ex) : ∀ u, inf vs e = .ok u → ∀ (off : Nat) (h : Int), 0 ≤ h → h + nodes e ≤ 64 → Seg len vs.length off (codeE e) h (h + 1) := by
  induction e using Ex.ind with
  | h e ih =>
    intro u hu off h h0 hn
    have hn1 : 1 ≤ nodes e := by rw [nodes_eq]; omega
    rcases inf_grants hu with ⟨hk, ho⟩ | ⟨a, b, x, y, hk, o1, o2, ha, hb⟩
    · rw [codeE_eq, hk]
      have ok : insOk ⟨e.op, e.n, 0⟩ off len vs.length = true := by
        unfold insOk
        rcases ho with ⟨q, q1, q2⟩ | ⟨q, q1, q2⟩ | ⟨q, q1, q2⟩ <;> simp [q] <;> omega
      have tk : takes (⟨e.op, e.n, 0⟩ : Ins).op = 0 := by unfold takes; rw [if_pos (by dsimp only; omega)]
      have pt : puts (⟨e.op, e.n, 0⟩ : Ins).op = 1 := by unfold puts; rw [if_neg (by dsimp only; omega)]
      have := Seg.one (len := len) (vars := vs.length) (off := off) (h := h) ok (by dsimp only; omega) (by dsimp only; omega) (by rw [tk]; omega) (by rw [tk, pt]; omega)
      rw [tk, pt, Int.sub_zero] at this
      exact this
    · rw [codeE_eq, hk]
      have hne : nodes e = 1 + nodes a + nodes b := by rw [nodes_eq, hk]; simp only [nodesL]; omega
      have na : 1 ≤ nodes a := by rw [nodes_eq]; omega
      have A := ih a (by rw [hk]; simp) x ha off h h0 (by omega)
      have Bs := ih b (by rw [hk]; simp) y hb (off + (codeE a).length) (h + 1) (by omega) (by omega)
      have ok : insOk ⟨e.op, 0, 0⟩ (off + (codeE a ++ codeE b).length : Nat) len vs.length = true := by
        unfold insOk
        simp only []
        rw [if_neg (by omega), if_neg (by omega), if_neg (by omega), if_neg (by omega), if_neg (by omega)]
        simp; omega
      have tk : takes (⟨e.op, 0, 0⟩ : Ins).op = 2 := takes_2 (.inr ⟨by dsimp only; omega, by dsimp only; omega, by dsimp only; omega, by dsimp only; omega, by dsimp only; omega⟩)
      have pt : puts (⟨e.op, 0, 0⟩ : Ins).op = 1 := by unfold puts; rw [if_neg (by dsimp only; omega)]
      have O := Seg.one (len := len) (vars := vs.length) (off := off + (codeE a ++ codeE b).length) (h := h + 1 + 1) ok (by dsimp only; omega) (by dsimp only; omega) (by rw [tk]; omega) (by rw [tk, pt]; omega)
      rw [tk, pt, show h + 1 + 1 - 2 + 1 = h + 1 by omega] at O
      have := (A.app Bs).app O
      simpa only [codeEs, List.append_nil, List.append_assoc] using this
theorem codeS_eq (s : St) (at' : Nat) : codeS s at' = if s.kind = 1 then codeE s.a ++ [⟨11, s.var, 0⟩] else
    match s.els with
    | [] => codeE s.a ++ codeE s.b ++ [⟨12, ((at' + (codeE s.a).length + (codeE s.b).length + 1 + (codeSs s.thn (at' + (codeE s.a).length + (codeE s.b).length + 1)).length : Nat) : Int), s.rel⟩] ++ codeSs s.thn (at' + (codeE s.a).length + (codeE s.b).length + 1)
    | x :: xs =>
      codeE s.a ++ codeE s.b ++ [⟨12, ((at' + (codeE s.a).length + (codeE s.b).length + 1 + (codeSs s.thn (at' + (codeE s.a).length + (codeE s.b).length + 1)).length + 1 : Nat) : Int), s.rel⟩] ++ codeSs s.thn (at' + (codeE s.a).length + (codeE s.b).length + 1) ++
        [⟨13, ((at' + (codeE s.a).length + (codeE s.b).length + 1 + (codeSs s.thn (at' + (codeE s.a).length + (codeE s.b).length + 1)).length + 1 + (codeSs (x :: xs) (at' + (codeE s.a).length + (codeE s.b).length + 1 + (codeSs s.thn (at' + (codeE s.a).length + (codeE s.b).length + 1)).length + 1)).length : Nat) : Int), 0⟩] ++
        codeSs (x :: xs) (at' + (codeE s.a).length + (codeE s.b).length + 1 + (codeSs s.thn (at' + (codeE s.a).length + (codeE s.b).length + 1)).length + 1) := by
  cases s with
  | mk k v r a b t e => cases e <;> (rw [codeS]; rfl)
/-- What the check of a statement grants. -/
theorem stS_ok {vs : List Un} {s : St} (h : stS vs s = 0) :
    (s.kind = 1 ∧ 0 ≤ s.var ∧ s.var < vs.length ∧ ∃ u, inf vs s.a = .ok u) ∨
      (s.kind = 2 ∧ 1 ≤ s.rel ∧ s.rel ≤ 6 ∧ (∃ u, inf vs s.a = .ok u) ∧ (∃ u, inf vs s.b = .ok u) ∧ stSL vs s.thn = 0 ∧ stSL vs s.els = 0) := by
  rw [stS_eq] at h
  split at h
  · rename_i hk
    split at h
    · rename_i hv
      split at h
      · omega
      · rename_i w hw
        have hlt := (List.getElem?_eq_some_iff.1 hw).1
        split at h
        · rename_i x hx
          rcases inf_err vs _ _ hx with e | e <;> omega
        · rename_i u hu
          exact .inl ⟨hk, hv, by omega, u, hu⟩
    · omega
  · split at h
    · rename_i hk
      split at h
      · rename_i hr
        split at h
        · rename_i x hx
          rcases inf_err vs _ _ hx with e | e <;> omega
        · rename_i u hu
          split at h
          · rename_i x hx
            rcases inf_err vs _ _ hx with e | e <;> omega
          · rename_i w hw
            split at h
            · split at h
              · rename_i ht
                exact .inr ⟨hk, hr.1, hr.2, ⟨u, hu⟩, ⟨w, hw⟩, ht, h⟩
              · contradiction
            · omega
      · omega
    · omega
theorem smS_all {s : St} (h : smS s = true) : nodes s.a ≤ 60 ∧ (s.kind = 2 → nodes s.b ≤ 60 ∧ smSL s.thn = true ∧ smSL s.els = true) := by
  rw [smS_eq] at h
  simp only [Bool.and_eq_true, decide_eq_true_eq] at h
  refine ⟨h.1.1, fun hk => ?_⟩
  have h2 := h.1.2
  have h3 := h.2
  simp only [if_pos hk, decide_eq_true_eq] at h2
  unfold innerL at h3
  rw [if_pos hk, smSL_app, Bool.and_eq_true] at h3
  exact ⟨h2, h3⟩
theorem codeS_seg {vs : List Un} {len : Int} (s : St) : ∀ (off : Nat), stS vs s = 0 → smS s = true → ((off + (codeS s off).length : Nat) : Int) ≤ len → Seg len vs.length off (codeS s off) 0 0 := by
  induction s using St.ind with
  | h s ih1 ih2 =>
    intro off hs hm hl
    have lists : ∀ l : List St, (∀ k ∈ l, ∀ (off : Nat), stS vs k = 0 → smS k = true → ((off + (codeS k off).length : Nat) : Int) ≤ len → Seg len vs.length off (codeS k off) 0 0) →
        ∀ (off : Nat), stSL vs l = 0 → smSL l = true → ((off + (codeSs l off).length : Nat) : Int) ≤ len → Seg len vs.length off (codeSs l off) 0 0 := by
      intro l
      induction l with
      | nil => intro _ off _ _ _; exact Seg.nil
      | cons x xs ihl =>
        intro hx off h1 h2 h3
        simp only [stSL] at h1
        simp only [smSL, Bool.and_eq_true] at h2
        simp only [codeSs, List.length_append] at h3
        split at h1
        · rename_i hx0
          have X := hx x (by simp) off hx0 h2.1 (by omega)
          have XS := ihl (fun k hk => hx k (by simp [hk])) (off + (codeS x off).length) h1 h2.2 (by omega)
          exact X.app XS
        · contradiction
    have T := lists s.thn ih1
    have E := lists s.els ih2
    obtain ⟨m1, m2⟩ := smS_all hm
    rw [codeS_eq] at hl ⊢
    rcases stS_ok hs with ⟨hk, v0, v1, u, hu⟩ | ⟨hk, r1, r2, ⟨u, hu⟩, ⟨w, hw⟩, ht, he⟩
    · rw [if_pos hk] at hl ⊢
      have A := codeE_seg (len := len) s.a u hu off 0 (Int.le_refl _) (by omega)
      have ok : insOk ⟨11, s.var, 0⟩ (off + (codeE s.a).length : Nat) len vs.length = true := by
        unfold insOk; simp; omega
      have O := Seg.one (len := len) (vars := vs.length) (off := off + (codeE s.a).length) (h := 0 + 1) ok (by simp) (by simp) (by simp [takes]) (by simp [takes, puts])
      have := A.app O
      simpa [takes, puts] using this
    · obtain ⟨m3, m4, m5⟩ := m2 hk
      rw [if_neg (by omega)] at hl ⊢
      have A := codeE_seg (len := len) s.a u hu off 0 (Int.le_refl _) (by omega)
      have Bs := codeE_seg (len := len) s.b w hw (off + (codeE s.a).length) (0 + 1) (by omega) (by omega)
      have AB := A.app Bs
      rw [show ((0 : Int) + 1 + 1) = 0 + 2 from rfl] at AB
      generalize hq : off + (codeE s.a).length + (codeE s.b).length = q at *
      have eq : off + (codeE s.a ++ codeE s.b).length = q := by rw [List.length_append]; omega
      cases hel : s.els with
      | nil =>
        rw [hel] at hl
        simp only at hl ⊢
        have TT := T (q + 1) ht m4 (by simp only [List.length_append, List.length_cons, List.length_nil] at hl; omega)
        have C := Seg.cond (len := len) (vars := vs.length) (off := q) (rel := s.rel) (h := 0) ⟨r1, r2⟩ (by simp only [List.length_append, List.length_cons, List.length_nil] at hl; omega) (by omega) TT
        rw [← eq] at C
        have := AB.app C
        simpa only [eq, List.append_assoc, List.singleton_append, List.cons_append, List.nil_append] using this
      | cons x xs =>
        rw [hel] at hl E he m5
        simp only at hl ⊢
        have TT := T (q + 1) ht m4 (by simp only [List.length_append, List.length_cons, List.length_nil] at hl; omega)
        have EE := E (q + 1 + (codeSs s.thn (q + 1)).length + 1) he m5 (by simp only [List.length_append, List.length_cons, List.length_nil] at hl; omega)
        have hne : codeSs (x :: xs) (q + 1 + (codeSs s.thn (q + 1)).length + 1) ≠ [] := by
          intro h0
          have := congrArg List.length h0
          simp only [codeSs, List.length_append, List.length_nil] at this
          have hx : 1 ≤ (codeS x (q + 1 + (codeSs s.thn (q + 1)).length + 1)).length := by
            rw [codeS_eq]
            split
            · simp
            · split <;> simp <;> omega
          omega
        have C := Seg.both (len := len) (vars := vs.length) (off := q) (rel := s.rel) (h := 0) ⟨r1, r2⟩ (by simp only [List.length_append, List.length_cons, List.length_nil] at hl; omega) hne (by omega) TT EE
        rw [← eq] at C
        have := AB.app C
        simpa only [eq, List.append_assoc, List.singleton_append, List.cons_append, List.nil_append] using this
theorem codeSs_seg {vs : List Un} {len : Int} : ∀ (l : List St) (off : Nat), stSL vs l = 0 → smSL l = true → ((off + (codeSs l off).length : Nat) : Int) ≤ len → Seg len vs.length off (codeSs l off) 0 0
  | [], off, _, _, _ => Seg.nil
  | x :: xs, off, h1, h2, h3 => by
    simp only [stSL] at h1
    simp only [smSL, Bool.and_eq_true] at h2
    simp only [codeSs, List.length_append] at h3
    split at h1
    · rename_i hx0
      exact (codeS_seg x off hx0 h2.1 (by omega)).app (codeSs_seg xs (off + (codeS x off).length) h1 h2.2 (by omega))
    · contradiction
/-- The code of checked statements is valid, if it is not too long. -/
theorem code_ver {vs : List Un} {l : List St} (h1 : stSL vs l = 0) (h2 : smSL l = true) (h3 : (codeSs l 0).length ≤ 4000) : verH (codeSs l 0) vs.length = true :=
  Seg.ver (codeSs_seg l 0 h1 h2 (by omega)) h3
end Go.Proofs.Ytiifbdkedainnaa.AL

set_option maxHeartbeats 8000000
set_option maxRecDepth 100000
set_option linter.unusedVariables false
set_option linter.unusedSimpArgs false
set_option linter.unusedSectionVars false
namespace Go.Proofs.Ytiifbdkedainnaa.Y
open Go.Proofs.Ytiifbdkedainnaa.AL Go.Proofs Go
attribute [local irreducible] AWP AWL AWG AWR AWE AWX AWO AWSeq AWSG AWSR AWSO AWSE AWSF GoodP OGW OGR OGE OGX PGW PGR PGE Wk AWLoop AWPD AWLD

abbrev rStr (l : List ByteArray) : List (List PV) := l.map fun w => [PV.sc (.string w)]
abbrev aStr (s : ByteArray) : AV := .pv (.sc (.string s))
theorem In_run (l : List ByteArray) (s : ByteArray) (hl : l.length ≤ 2000000) (H0 : List AObj) :
    ARun Try.prog 52 [.rs 1 (rStr l), aStr s] H0 (.ret (.i (placeS l s 0)) H0) := by
  (refine ARun.intro Try.func52 rfl Try.call52 Try.ntmps52 Try.results52 ?_; simp only [List.length_cons, List.length_nil, List.length_map, Nat.reduceAdd, Nat.reduceSub, List.replicate_succ, List.replicate_zero, List.cons_append, List.nil_append])
  (refine wkO ?_; (repeat' first | exact True.intro | refine Lf.mk ?_ ?_); all_goals intro hP)
  refine awp_loop_ind (σ := Nat) (fun k => l.length - k) (fun k => k ≤ l.length ∧ placeS l s 0 = placeS (l.drop k) s k)
    (fun k => (.rs 1 (rStr l) :: aStr s :: .any :: .any :: .any :: .i k :: .any :: .any :: .any :: .any :: .any :: .any :: .any :: .any :: .any :: .any :: .any :: .any :: .any :: [])) (fun k => H0) 0 ⟨Nat.zero_le _, by simp⟩ (by (refine fgtX ?_; try exact True.intro)) ?_
  rintro k ⟨k1, k2⟩
  have hw : IntKind.i64.wrap ((k : Int) + 1) = ((k + 1 : Nat) : Int) := by rw [wrap_of (by omega) (by omega)]; omega
  cases hd : l.drop k with
  | nil =>
    have hk : l.length ≤ k := List.drop_eq_nil_iff.1 hd
    rw [hd] at k2
    (refine wkO ?_; (repeat' first | exact True.intro | refine Lf.mk ?_ ?_); all_goals intro hP)
    (refine resX ?_; try exact True.intro)
    rw [k2]; rfl
  | cons w r =>
    have hk : k < l.length := by have := congrArg List.length hd; simp at this; omega
    rw [hd] at k2
    have hwk : l[k]? = some w := by
      have := List.getElem?_drop (xs := l) (i := k) (j := 0)
      rw [hd] at this; simpa using this.symm
    have hr : l.drop (k + 1) = r := by rw [← List.drop_drop, hd]; rfl
    have hl' : (rStr l)[k]? = some [PV.sc (.string w)] := by rw [List.getElem?_map, hwk]; rfl
    cases he : (w.toList == s.toList) with
    | true =>
      (have ww1 := hl'; have ww2 := hw; have ww3 := he; refine wkO ?_; clear ww1 ww2 ww3; (repeat' first | exact True.intro | refine Lf.mk ?_ ?_); all_goals intro hP)
      (refine resX ?_; try exact True.intro)
      rw [k2, placeS, if_pos (by exact he)]
    | false =>
      (have ww1 := hl'; have ww2 := hw; have ww3 := he; refine wkO ?_; clear ww1 ww2 ww3; (repeat' first | exact True.intro | refine Lf.mk ?_ ?_); all_goals intro hP)
      refine ⟨k + 1, by omega, ⟨by omega, ?_⟩, by (refine fgtX ?_; try exact True.intro)⟩
      rw [k2, hr, placeS, if_neg (by unfold eqB; rw [he]; simp)]
      rfl
theorem Units_run (H0 : List AObj) : ARun Try.prog 53 [] H0 (.ret (.rs 1 (rStr wUnits)) H0) := by
  (refine ARun.intro Try.func53 rfl Try.call53 Try.ntmps53 Try.results53 ?_; simp only [List.length_cons, List.length_nil, List.length_map, Nat.reduceAdd, Nat.reduceSub, List.replicate_succ, List.replicate_zero, List.cons_append, List.nil_append])
  (refine wk ?_; (repeat' first | exact True.intro | refine Lf.mk ?_ ?_); all_goals intro hP)
  (refine resC ?_; (repeat' (first | exact True.intro | refine Lf.mk ?_ ?_)))
  simp only [Nat.le_refl, if_true]
  exact Cv.refl _
theorem Events_run (H0 : List AObj) : ARun Try.prog 54 [] H0 (.ret (.rs 1 (rStr wEvents)) H0) := by
  (refine ARun.intro Try.func54 rfl Try.call54 Try.ntmps54 Try.results54 ?_; simp only [List.length_cons, List.length_nil, List.length_map, Nat.reduceAdd, Nat.reduceSub, List.replicate_succ, List.replicate_zero, List.cons_append, List.nil_append])
  (refine wk ?_; (repeat' first | exact True.intro | refine Lf.mk ?_ ?_); all_goals intro hP)
  (refine resC ?_; (repeat' (first | exact True.intro | refine Lf.mk ?_ ?_)))
  simp only [Nat.le_refl, if_true]
  exact Cv.refl _
theorem Policies_run (H0 : List AObj) : ARun Try.prog 55 [] H0 (.ret (.rs 1 (rStr wPolicies)) H0) := by
  (refine ARun.intro Try.func55 rfl Try.call55 Try.ntmps55 Try.results55 ?_; simp only [List.length_cons, List.length_nil, List.length_map, Nat.reduceAdd, Nat.reduceSub, List.replicate_succ, List.replicate_zero, List.cons_append, List.nil_append])
  (refine wk ?_; (repeat' first | exact True.intro | refine Lf.mk ?_ ?_); all_goals intro hP)
  (refine resC ?_; (repeat' (first | exact True.intro | refine Lf.mk ?_ ?_)))
  simp only [Nat.le_refl, if_true]
  exact Cv.refl _
theorem Inputs_run (H0 : List AObj) : ARun Try.prog 56 [] H0 (.ret (.rs 1 (rStr wInputs)) H0) := by
  (refine ARun.intro Try.func56 rfl Try.call56 Try.ntmps56 Try.results56 ?_; simp only [List.length_cons, List.length_nil, List.length_map, Nat.reduceAdd, Nat.reduceSub, List.replicate_succ, List.replicate_zero, List.cons_append, List.nil_append])
  (refine wk ?_; (repeat' first | exact True.intro | refine Lf.mk ?_ ?_); all_goals intro hP)
  (refine resC ?_; (repeat' (first | exact True.intro | refine Lf.mk ?_ ?_)))
  simp only [Nat.le_refl, if_true]
  exact Cv.refl _
theorem Others_run (H0 : List AObj) : ARun Try.prog 57 [] H0 (.ret (.rs 1 (rStr wOthers)) H0) := by
  (refine ARun.intro Try.func57 rfl Try.call57 Try.ntmps57 Try.results57 ?_; simp only [List.length_cons, List.length_nil, List.length_map, Nat.reduceAdd, Nat.reduceSub, List.replicate_succ, List.replicate_zero, List.cons_append, List.nil_append])
  (refine wk ?_; (repeat' first | exact True.intro | refine Lf.mk ?_ ?_); all_goals intro hP)
  (refine resC ?_; (repeat' (first | exact True.intro | refine Lf.mk ?_ ?_)))
  simp only [Nat.le_refl, if_true]
  exact Cv.refl _
end Go.Proofs.Ytiifbdkedainnaa.Y

set_option maxHeartbeats 8000000
set_option maxRecDepth 100000
set_option linter.unusedVariables false
set_option linter.unusedSimpArgs false
set_option linter.unusedSectionVars false
namespace Go.Proofs.Ytiifbdkedainnaa.Y
open Go.Proofs.Ytiifbdkedainnaa.AL Go.Proofs Go
attribute [local irreducible] AWP AWL AWG AWR AWE AWX AWO AWSeq AWSG AWSR AWSO AWSE AWSF GoodP OGW OGR OGE OGX PGW PGR PGE Wk AWLoop AWPD AWLD

theorem bytes_nn {s : ByteArray} {c : Int} (h : c ∈ bytesZ s) : 0 ≤ c ∧ c < 256 := by
  unfold bytesZ at h
  obtain ⟨b, _, rfl⟩ := List.mem_map.1 h
  have := b.toNat_lt
  omega
theorem key_nn {l : List ByteArray} {s : ByteArray} : decide (0 ≤ placeS l s 0) = inB l s := by
  have := placeS_nn (l := l) (s := s) (i := 0) (Int.le_refl _)
  cases h : inB l s with
  | true => simpa using this.2 h
  | false => simp only [decide_eq_false_iff_not]; intro h0; rw [this.1 h0] at h; cases h
theorem charS_iff (k : Nat) (c : Int) : charS k c = true ↔ (97 ≤ c ∧ c ≤ 122) ∨ (k ≠ 0 ∧ ((48 ≤ c ∧ c ≤ 57) ∨ c = 95)) := by unfold charS; simp
theorem Name_run (s : ByteArray) (hs : s.size ≤ 2000000) (H0 : List AObj) :
    ARun Try.prog 31 [aStr s] H0 (.ret (.b (nameB s)) H0) := by
  have u1 := fun H0 => Units_run H0
  have u2 := fun H0 => Events_run H0
  have u3 := fun H0 => Policies_run H0
  have u4 := fun H0 => Inputs_run H0
  have u5 := fun H0 => Others_run H0
  have i1 := fun H0 => In_run wUnits s (by decide) H0
  have i2 := fun H0 => In_run wEvents s (by decide) H0
  have i3 := fun H0 => In_run wPolicies s (by decide) H0
  have i4 := fun H0 => In_run wInputs s (by decide) H0
  have i5 := fun H0 => In_run wOthers s (by decide) H0
  (refine ARun.intro Try.func31 rfl Try.call31 Try.ntmps31 Try.results31 ?_; simp only [List.length_cons, List.length_nil, List.length_map, Nat.reduceAdd, Nat.reduceSub, List.replicate_succ, List.replicate_zero, List.cons_append, List.nil_append])
  (refine wkO ?_; (repeat' first | exact True.intro | refine Lf.mk ?_ ?_); all_goals intro hP)
  refine awp_loop_ind (σ := Nat) (fun k => s.size - k) (fun k => k ≤ s.size ∧ charsS (bytesZ s) 0 = charsS ((bytesZ s).drop k) k)
    (fun k => (aStr s :: .any :: .any :: .i k :: .any :: .any :: .any :: .any :: .any :: .any :: .any :: .any :: .any :: .any :: .any :: .any :: .any :: .any :: .any :: .any :: .any :: .any :: .any :: .any :: .any :: .any :: .any :: .any :: .any :: .any :: .any :: .any :: .any :: .any :: .any :: .any :: .any :: .any :: .any :: .any :: .any :: .any :: .any :: .any :: .any :: .any :: .any :: .any :: .any :: .any :: .any :: .any :: .any :: .any :: .any :: .any :: .any :: .any :: .any :: .any :: .any :: .any :: .any :: .any :: .any :: .any :: .any :: .any :: .any :: .any :: .any :: .any :: .any :: .any :: .any :: .any :: .any :: [])) (fun k => H0) 0 ⟨Nat.zero_le _, by simp⟩ (by (refine fgtX ?_; try exact True.intro)) ?_
  rintro k ⟨k1, k2⟩
  have hw : IntKind.i64.wrap ((k : Int) + 1) = ((k + 1 : Nat) : Int) := by rw [wrap_of (by omega) (by omega)]; omega
  by_cases hk : k = s.size
  · subst hk
    rw [List.drop_eq_nil_of_le (by rw [bytesZ_len]; exact Nat.le_refl _)] at k2
    have k3 : charsS (bytesZ s) 0 = true := by rw [k2]; rfl
    clear k2
    have e1 := key_nn (l := wUnits) (s := s)
    have e2 := key_nn (l := wEvents) (s := s)
    have e3 := key_nn (l := wPolicies) (s := s)
    have e4 := key_nn (l := wInputs) (s := s)
    have e5 := key_nn (l := wOthers) (s := s)
    generalize hp1 : placeS wUnits s 0 = p1 at *
    generalize hp2 : placeS wEvents s 0 = p2 at *
    generalize hp3 : placeS wPolicies s 0 = p3 at *
    generalize hp4 : placeS wInputs s 0 = p4 at *
    generalize hp5 : placeS wOthers s 0 = p5 at *
    have hkey : keyB s = (decide (0 ≤ p1) || (decide (0 ≤ p2) || (decide (0 ≤ p3) || (decide (0 ≤ p4) || decide (0 ≤ p5))))) := by
      unfold keyB; rw [e1, e2, e3, e4, e5]
    (have cc1 := fun z1 => u1 z1; have cc2 := fun z1 => u2 z1; have cc3 := fun z1 => u3 z1; have cc4 := fun z1 => u4 z1; have cc5 := fun z1 => u5 z1; have cc6 := fun z1 => i1 z1; have cc7 := fun z1 => i2 z1; have cc8 := fun z1 => i3 z1; have cc9 := fun z1 => i4 z1; have cc10 := fun z1 => i5 z1; refine wkO ?_; clear cc1 cc2 cc3 cc4 cc5 cc6 cc7 cc8 cc9 cc10; (repeat' first | exact True.intro | refine Lf.mk ?_ ?_); all_goals intro hP)
    all_goals clear u1 u2 u3 u4 u5 i1 i2 i3 i4 i5 e1 e2 e3 e4 e5
    all_goals ((refine resX ?_; try exact True.intro))
    all_goals (unfold nameB; rw [k3, hkey]; refine congrArg (fun b => AV.pv (PV.sc (Value.bool b))) ?_; rw [Bool.eq_iff_iff]; simp <;> omega)
  · have hlt : k < s.size := by omega
    have hlz : k < (bytesZ s).length := by rw [bytesZ_len]; exact hlt
    have hd : (bytesZ s).drop k = (bytesZ s).getD k 0 :: (bytesZ s).drop (k + 1) := by
      rw [List.drop_eq_getElem_cons hlz, List.getD_eq_getElem?_getD, List.getElem?_eq_getElem hlz]; rfl
    have hb := bytes_nn (getD_mem hlz)
    rw [hd] at k2
    simp only [charsS] at k2
    (have ww1 := hw; refine wkO ?_; clear ww1; (repeat' first | exact True.intro | refine Lf.mk ?_ ?_); all_goals intro hP)
    all_goals first
      | (refine ⟨k + 1, by omega, ⟨by omega, ?_⟩, by (refine fgtX ?_; try exact True.intro)⟩; rw [k2, show charS k ((bytesZ s).getD k 0) = true from (charS_iff _ _).2 (by omega), Bool.true_and]; done)
      | ((refine resX ?_; try exact True.intro); unfold nameB; rw [k2, show charS k ((bytesZ s).getD k 0) = false from Bool.eq_false_iff.2 (fun h => by have := (charS_iff _ _).1 h; omega), Bool.false_and, Bool.false_and]; done)
end Go.Proofs.Ytiifbdkedainnaa.Y

set_option maxHeartbeats 8000000
set_option maxRecDepth 100000
set_option linter.unusedVariables false
set_option linter.unusedSimpArgs false
set_option linter.unusedSectionVars false
namespace Go.Proofs.Ytiifbdkedainnaa.Y
open Go.Proofs.Ytiifbdkedainnaa.AL Go.Proofs Go
attribute [local irreducible] AWP AWL AWG AWR AWE AWX AWO AWSeq AWSG AWSR AWSO AWSE AWSF GoodP OGW OGR OGE OGX PGW PGR PGE Wk AWLoop AWPD AWLD

theorem RVar_run (v : Vr) (hs : v.name.size ≤ 2000000) (H0 : List AObj) : ARun Try.prog 32 [.ag (encV v)] H0 (.ret (.b (varB v)) H0) := by
  have h1 := fun H0 => Name_run v.name hs H0
  obtain ⟨nm, u, lo, hi, ini⟩ := v
  simp only at h1 hs
  simp only [encV]
  cases hn : nameB nm with
  | true =>
    simp only [hn] at h1
    (refine ARun.intro Try.func32 rfl Try.call32 Try.ntmps32 Try.results32 ?_; simp only [List.length_cons, List.length_nil, List.length_map, Nat.reduceAdd, Nat.reduceSub, List.replicate_succ, List.replicate_zero, List.cons_append, List.nil_append])
    (have cc1 := fun z1 => h1 z1; refine wkO ?_; clear cc1; (repeat' first | exact True.intro | refine Lf.mk ?_ ?_); all_goals intro hP)
    all_goals clear h1
    all_goals ((refine resX ?_; try exact True.intro))
    all_goals (unfold varB; simp only [hn, Bool.true_and]; refine congrArg (fun b => AV.pv (PV.sc (Value.bool b))) ?_; rw [Bool.eq_iff_iff]; simp <;> omega)
  | false =>
    simp only [hn] at h1
    (refine ARun.intro Try.func32 rfl Try.call32 Try.ntmps32 Try.results32 ?_; simp only [List.length_cons, List.length_nil, List.length_map, Nat.reduceAdd, Nat.reduceSub, List.replicate_succ, List.replicate_zero, List.cons_append, List.nil_append])
    (have cc1 := fun z1 => h1 z1; refine wkO ?_; clear cc1; (repeat' first | exact True.intro | refine Lf.mk ?_ ?_); all_goals intro hP)
    all_goals clear h1
    all_goals ((refine resX ?_; try exact True.intro))
    all_goals (unfold varB; simp [hn])
theorem RFind_run (l : List Vr) (s : ByteArray) (hl : l.length ≤ 2000000) (H0 : List AObj) :
    ARun Try.prog 33 [.rs 5 (l.map encV), aStr s] H0 (.ret (.i (findV l s 0)) H0) := by
  (refine ARun.intro Try.func33 rfl Try.call33 Try.ntmps33 Try.results33 ?_; simp only [List.length_cons, List.length_nil, List.length_map, Nat.reduceAdd, Nat.reduceSub, List.replicate_succ, List.replicate_zero, List.cons_append, List.nil_append])
  (refine wkO ?_; (repeat' first | exact True.intro | refine Lf.mk ?_ ?_); all_goals intro hP)
  refine awp_loop_ind (σ := Nat) (fun k => l.length - k) (fun k => k ≤ l.length ∧ findV l s 0 = findV (l.drop k) s k)
    (fun k => (.rs 5 (l.map encV) :: aStr s :: .any :: .any :: .any :: .i k :: .any :: .any :: .any :: .any :: .any :: .any :: .any :: .any :: .any :: .any :: .any :: .any :: .any :: .any :: [])) (fun k => H0) 0 ⟨Nat.zero_le _, by simp⟩ (by (refine fgtX ?_; try exact True.intro)) ?_
  rintro k ⟨k1, k2⟩
  have hw : IntKind.i64.wrap ((k : Int) + 1) = ((k + 1 : Nat) : Int) := by rw [wrap_of (by omega) (by omega)]; omega
  cases hd : l.drop k with
  | nil =>
    have hk : l.length ≤ k := List.drop_eq_nil_iff.1 hd
    rw [hd] at k2
    (refine wkO ?_; (repeat' first | exact True.intro | refine Lf.mk ?_ ?_); all_goals intro hP)
    (refine resX ?_; try exact True.intro)
    rw [k2]; rfl
  | cons v r =>
    have hk : k < l.length := by have := congrArg List.length hd; simp at this; omega
    rw [hd] at k2
    obtain ⟨hvk, _, hr, _⟩ := drop_cons hd
    have hl' : (l.map encV)[k]? = some (cV v) := by rw [List.getElem?_map, hvk]; rfl
    cases he : (v.name.toList == s.toList) with
    | true =>
      (have ww1 := hl'; have ww2 := hw; have ww3 := he; refine wkO ?_; clear ww1 ww2 ww3; (repeat' first | exact True.intro | refine Lf.mk ?_ ?_); all_goals intro hP)
      (refine resX ?_; try exact True.intro)
      rw [k2, findV, if_pos (by exact he)]
    | false =>
      (have ww1 := hl'; have ww2 := hw; have ww3 := he; refine wkO ?_; clear ww1 ww2 ww3; (repeat' first | exact True.intro | refine Lf.mk ?_ ?_); all_goals intro hP)
      refine ⟨k + 1, by omega, ⟨by omega, ?_⟩, by (refine fgtX ?_; try exact True.intro)⟩
      rw [k2, hr, findV, if_neg (by unfold eqB; rw [he]; simp)]
      rfl
theorem RUses_run (l : List Vr) (k u : Int) (hl : l.length ≤ 2000000) (H0 : List AObj) :
    ARun Try.prog 35 [.rs 5 (l.map encV), .i k, .i u] H0 (.ret (.b (usesB l k u)) H0) := by
  by_cases hk : 0 ≤ k ∧ k < l.length
  · have hlt : k.toNat < l.length := by omega
    have hv := getEV hlt
    have hl' : (l.map encV)[k.toNat]? = some (cV (l.getD k.toNat dV)) := by rw [List.getElem?_map, hv]; rfl
    (refine ARun.intro Try.func35 rfl Try.call35 Try.ntmps35 Try.results35 ?_; simp only [List.length_cons, List.length_nil, List.length_map, Nat.reduceAdd, Nat.reduceSub, List.replicate_succ, List.replicate_zero, List.cons_append, List.nil_append])
    (have ww1 := hl'; refine wkO ?_; clear ww1; (repeat' first | exact True.intro | refine Lf.mk ?_ ?_); all_goals intro hP)
    all_goals ((refine resX ?_; try exact True.intro))
    all_goals (unfold usesB; rw [hv]; simp [hk])
  · (refine ARun.intro Try.func35 rfl Try.call35 Try.ntmps35 Try.results35 ?_; simp only [List.length_cons, List.length_nil, List.length_map, Nat.reduceAdd, Nat.reduceSub, List.replicate_succ, List.replicate_zero, List.cons_append, List.nil_append])
    (refine wkO ?_; (repeat' first | exact True.intro | refine Lf.mk ?_ ?_); all_goals intro hP)
    all_goals ((refine resX ?_; try exact True.intro))
    all_goals (unfold usesB; rw [decide_eq_false hk, Bool.false_and])
end Go.Proofs.Ytiifbdkedainnaa.Y

set_option maxHeartbeats 8000000
set_option maxRecDepth 100000
set_option linter.unusedVariables false
set_option linter.unusedSimpArgs false
set_option linter.unusedSectionVars false
namespace Go.Proofs.Ytiifbdkedainnaa.Y
open Go.Proofs.Ytiifbdkedainnaa.AL Go.Proofs Go
attribute [local irreducible] AWP AWL AWG AWR AWE AWX AWO AWSeq AWSG AWSR AWSO AWSE AWSF GoodP OGW OGR OGE OGX PGW PGR PGE Wk AWLoop AWPD AWLD

theorem eqB_iff {a b : ByteArray} : (a.toList == b.toList) = true ↔ a = b := by rw [← beq_toListBytes]; exact bytesBeq
theorem eqB_sym (a b : ByteArray) : (a.toList == b.toList) = (b.toList == a.toList) := eqB_comm a b
theorem SIndex_run (l : List ByteArray) (s : ByteArray) (hl : l.length ≤ 2000000) (H0 : List AObj) :
    ARun Try.prog 105 [.rs 1 (rStr l), aStr s] H0 (.ret (.i (placeS l s 0)) H0) := by
  (refine ARun.intro Try.func105 rfl Try.call105 Try.ntmps105 Try.results105 ?_; simp only [List.length_cons, List.length_nil, List.length_map, Nat.reduceAdd, Nat.reduceSub, List.replicate_succ, List.replicate_zero, List.cons_append, List.nil_append])
  (refine wkO ?_; (repeat' first | exact True.intro | refine Lf.mk ?_ ?_); all_goals intro hP)
  refine awp_loop_ind (σ := Nat) (fun k => l.length - k) (fun k => k ≤ l.length ∧ placeS l s 0 = placeS (l.drop k) s k)
    (fun k => (.rs 1 (rStr l) :: aStr s :: .any :: .any :: .any :: .any :: .any :: .i l.length :: .i k :: .any :: .any :: .any :: .any :: .any :: .any :: .any :: .any :: .any :: .any :: [])) (fun k => H0) 0 ⟨Nat.zero_le _, by simp⟩ (by (refine fgtX ?_; try exact True.intro)) ?_
  rintro k ⟨k1, k2⟩
  have hw : IntKind.i64.wrap ((k : Int) + 1) = ((k + 1 : Nat) : Int) := by rw [wrap_of (by omega) (by omega)]; omega
  cases hd : l.drop k with
  | nil =>
    have hk : l.length ≤ k := List.drop_eq_nil_iff.1 hd
    rw [hd] at k2
    (refine wkO ?_; (repeat' first | exact True.intro | refine Lf.mk ?_ ?_); all_goals intro hP)
    (refine resX ?_; try exact True.intro)
    rw [k2]; rfl
  | cons w r =>
    have hk : k < l.length := by have := congrArg List.length hd; simp at this; omega
    rw [hd] at k2
    have hwk : l[k]? = some w := by
      have := List.getElem?_drop (xs := l) (i := k) (j := 0)
      rw [hd] at this; simpa using this.symm
    have hr : l.drop (k + 1) = r := by rw [← List.drop_drop, hd]; rfl
    have hl' : (rStr l)[k]? = some [PV.sc (.string w)] := by rw [List.getElem?_map, hwk]; rfl
    cases he : (s.toList == w.toList) with
    | true =>
      (have ww1 := hl'; have ww2 := hw; have ww3 := he; refine wkO ?_; clear ww1 ww2 ww3; (repeat' first | exact True.intro | refine Lf.mk ?_ ?_); all_goals intro hP)
      (refine resX ?_; try exact True.intro)
      rw [k2, placeS, if_pos (by unfold eqB; rw [eqB_sym]; exact he)]
    | false =>
      (have ww1 := hl'; have ww2 := hw; have ww3 := he; refine wkO ?_; clear ww1 ww2 ww3; (repeat' first | exact True.intro | refine Lf.mk ?_ ?_); all_goals intro hP)
      refine ⟨k + 1, by omega, ⟨by omega, ?_⟩, by (refine fgtX ?_; try exact True.intro)⟩
      rw [k2, hr, placeS, if_neg (by unfold eqB; rw [eqB_sym, he]; simp)]
      rfl
theorem place_lt {l : List ByteArray} {s : ByteArray} : ∀ {i : Int}, 0 ≤ i → -1 ≤ placeS l s i ∧ placeS l s i ≤ i + l.length := by
  induction l with
  | nil => intro i hi; simp [placeS]; omega
  | cons w l ih =>
    intro i hi
    unfold placeS
    have := ih (i := i + 1) (by omega)
    split
    · simp only [List.length_cons]; omega
    · simp only [List.length_cons]; omega
theorem unitOf_run (s : ByteArray) (H0 : List AObj) : ARun Try.prog 99 [aStr s] H0 (.ret (.tup [.i (placeS wUnits s 0), .b (inB wUnits s)]) H0) := by
  have h := SIndex_run wUnits s (by decide) []
  (refine ARun.intro Try.func99 rfl Try.call99 Try.ntmps99 Try.results99 ?_; simp only [List.length_cons, List.length_nil, List.length_map, Nat.reduceAdd, Nat.reduceSub, List.replicate_succ, List.replicate_zero, List.cons_append, List.nil_append])
  (have dd1 := h; refine wkO ?_; clear dd1; (repeat' first | exact True.intro | refine Lf.mk ?_ ?_); all_goals intro hP)
  (refine resX ?_; try exact True.intro)
  rw [key_nn]
theorem eventOf_run (s : ByteArray) (H0 : List AObj) : ARun Try.prog 100 [aStr s] H0 (.ret (.tup [.i (placeS wEvents s 0), .b (inB wEvents s)]) H0) := by
  have h := SIndex_run wEvents s (by decide) []
  (refine ARun.intro Try.func100 rfl Try.call100 Try.ntmps100 Try.results100 ?_; simp only [List.length_cons, List.length_nil, List.length_map, Nat.reduceAdd, Nat.reduceSub, List.replicate_succ, List.replicate_zero, List.cons_append, List.nil_append])
  (have dd1 := h; refine wkO ?_; clear dd1; (repeat' first | exact True.intro | refine Lf.mk ?_ ?_); all_goals intro hP)
  (refine resX ?_; try exact True.intro)
  rw [key_nn]
theorem policyOf_run (s : ByteArray) (H0 : List AObj) : ARun Try.prog 101 [aStr s] H0 (.ret (.tup [.i (placeS wPolicies s 0 + 1), .b (inB wPolicies s)]) H0) := by
  have h := SIndex_run wPolicies s (by decide) []
  have hp := place_lt (l := wPolicies) (s := s) (i := 0) (Int.le_refl _)
  have hlen : wPolicies.length = 6 := rfl
  rw [hlen] at hp
  (refine ARun.intro Try.func101 rfl Try.call101 Try.ntmps101 Try.results101 ?_; simp only [List.length_cons, List.length_nil, List.length_map, Nat.reduceAdd, Nat.reduceSub, List.replicate_succ, List.replicate_zero, List.cons_append, List.nil_append])
  (have dd1 := h; refine wkO ?_; clear dd1; (repeat' first | exact True.intro | refine Lf.mk ?_ ?_); all_goals intro hP)
  (refine resX ?_; try exact True.intro)
  rw [key_nn]
theorem isInput_run (s : ByteArray) (H0 : List AObj) : ARun Try.prog 102 [aStr s] H0 (.ret (.b (inB wInputs s)) H0) := by
  have e : inB wInputs s = ((s.toList == (⟨#[97, 99, 107, 101, 100]⟩ : ByteArray).toList) || ((s.toList == (⟨#[114, 116, 116]⟩ : ByteArray).toList) || ((s.toList == (⟨#[115, 105, 122, 101]⟩ : ByteArray).toList) || (s.toList == (⟨#[116, 111, 116, 97, 108]⟩ : ByteArray).toList)))) := by
    unfold inB wInputs
    simp only [List.any_cons, List.any_nil, Bool.or_false, eqB, eqB_sym _ s]
  (refine ARun.intro Try.func102 rfl Try.call102 Try.ntmps102 Try.results102 ?_; simp only [List.length_cons, List.length_nil, List.length_map, Nat.reduceAdd, Nat.reduceSub, List.replicate_succ, List.replicate_zero, List.cons_append, List.nil_append])
  (refine wk ?_; (repeat' first | exact True.intro | refine Lf.mk ?_ ?_); all_goals intro hP)
  all_goals ((refine resX ?_; try exact True.intro))
  all_goals (rw [e]; refine congrArg (fun b => AV.pv (PV.sc (Value.bool b))) ?_; rw [Bool.eq_iff_iff]; simp only [Bool.or_eq_true, beq_iff_eq, Bool.true_eq_false, iff_true, Bool.false_eq_true, iff_false]; clear e; simp_all)
end Go.Proofs.Ytiifbdkedainnaa.Y

set_option maxHeartbeats 8000000
set_option maxRecDepth 100000
set_option linter.unusedVariables false
set_option linter.unusedSimpArgs false
set_option linter.unusedSectionVars false
namespace Go.Proofs.Ytiifbdkedainnaa.Y
open Go.Proofs.Ytiifbdkedainnaa.AL Go.Proofs Go
attribute [local irreducible] AWP AWL AWG AWR AWE AWX AWO AWSeq AWSG AWSR AWSO AWSE AWSF GoodP OGW OGR OGE OGX PGW PGR PGE Wk AWLoop AWPD AWLD

theorem isKey_run (s : ByteArray) (H0 : List AObj) : ARun Try.prog 92 [aStr s] H0 (.ret (.b (keyB s)) H0) := by
  have h1 := fun H0 => unitOf_run s H0
  have h2 := fun H0 => eventOf_run s H0
  have h3 := fun H0 => policyOf_run s H0
  have h4 := fun H0 => isInput_run s H0
  have e : inB wOthers s = ((s.toList == (⟨#[108, 105, 110, 107]⟩ : ByteArray).toList) || ((s.toList == (⟨#[112, 97, 116, 104]⟩ : ByteArray).toList) || ((s.toList == (⟨#[102, 108, 111, 119]⟩ : ByteArray).toList) || ((s.toList == (⟨#[112, 114, 111, 103, 114, 97, 109]⟩ : ByteArray).toList) || ((s.toList == (⟨#[100, 101, 108, 97, 121]⟩ : ByteArray).toList) || ((s.toList == (⟨#[114, 111, 111, 109]⟩ : ByteArray).toList) || ((s.toList == (⟨#[98, 97, 99, 107]⟩ : ByteArray).toList) || ((s.toList == (⟨#[112, 97, 116, 104, 115]⟩ : ByteArray).toList) || ((s.toList == (⟨#[119, 105, 110, 100, 111, 119]⟩ : ByteArray).toList) || ((s.toList == (⟨#[115, 116, 97, 114, 116]⟩ : ByteArray).toList) || ((s.toList == (⟨#[112, 97, 99, 101]⟩ : ByteArray).toList) || ((s.toList == (⟨#[118, 97, 114]⟩ : ByteArray).toList) || ((s.toList == (⟨#[111, 110]⟩ : ByteArray).toList) || ((s.toList == (⟨#[105, 102]⟩ : ByteArray).toList) || ((s.toList == (⟨#[101, 108, 115, 101]⟩ : ByteArray).toList) || ((s.toList == (⟨#[109, 105, 110]⟩ : ByteArray).toList) || ((s.toList == (⟨#[109, 97, 120]⟩ : ByteArray).toList) || ((s.toList == (⟨#[117, 112]⟩ : ByteArray).toList))))))))))))))))))) := by
    simp only [inB, wOthers, List.any_cons, List.any_nil, Bool.or_false, eqB, eqB_sym _ s]
  cases q0 : (s.toList == (⟨#[108, 105, 110, 107]⟩ : ByteArray).toList) with
  | true =>
    have hq := q0
    have hk : keyB s = true := by unfold keyB; rw [e, q0]; simp
    rw [hk]
    clear e hk q0
    (refine ARun.intro Try.func92 rfl Try.call92 Try.ntmps92 Try.results92 ?_; simp only [List.length_cons, List.length_nil, List.length_map, Nat.reduceAdd, Nat.reduceSub, List.replicate_succ, List.replicate_zero, List.cons_append, List.nil_append])
    (have ww1 := hq; refine wk ?_; clear ww1; (repeat' first | exact True.intro | refine Lf.mk ?_ ?_); all_goals intro hP)
    (refine resX ?_; try exact True.intro)
  | false =>
  cases q1 : (s.toList == (⟨#[112, 97, 116, 104]⟩ : ByteArray).toList) with
  | true =>
    have hq := And.intro q0 q1
    have hk : keyB s = true := by unfold keyB; rw [e, q1]; simp
    rw [hk]
    clear e hk q0 q1
    (refine ARun.intro Try.func92 rfl Try.call92 Try.ntmps92 Try.results92 ?_; simp only [List.length_cons, List.length_nil, List.length_map, Nat.reduceAdd, Nat.reduceSub, List.replicate_succ, List.replicate_zero, List.cons_append, List.nil_append])
    (have ww1 := hq; refine wk ?_; clear ww1; (repeat' first | exact True.intro | refine Lf.mk ?_ ?_); all_goals intro hP)
    (refine resX ?_; try exact True.intro)
  | false =>
  cases q2 : (s.toList == (⟨#[102, 108, 111, 119]⟩ : ByteArray).toList) with
  | true =>
    have hq := And.intro q0 (And.intro q1 q2)
    have hk : keyB s = true := by unfold keyB; rw [e, q2]; simp
    rw [hk]
    clear e hk q0 q1 q2
    (refine ARun.intro Try.func92 rfl Try.call92 Try.ntmps92 Try.results92 ?_; simp only [List.length_cons, List.length_nil, List.length_map, Nat.reduceAdd, Nat.reduceSub, List.replicate_succ, List.replicate_zero, List.cons_append, List.nil_append])
    (have ww1 := hq; refine wk ?_; clear ww1; (repeat' first | exact True.intro | refine Lf.mk ?_ ?_); all_goals intro hP)
    (refine resX ?_; try exact True.intro)
  | false =>
  cases q3 : (s.toList == (⟨#[112, 114, 111, 103, 114, 97, 109]⟩ : ByteArray).toList) with
  | true =>
    have hq := And.intro q0 (And.intro q1 (And.intro q2 q3))
    have hk : keyB s = true := by unfold keyB; rw [e, q3]; simp
    rw [hk]
    clear e hk q0 q1 q2 q3
    (refine ARun.intro Try.func92 rfl Try.call92 Try.ntmps92 Try.results92 ?_; simp only [List.length_cons, List.length_nil, List.length_map, Nat.reduceAdd, Nat.reduceSub, List.replicate_succ, List.replicate_zero, List.cons_append, List.nil_append])
    (have ww1 := hq; refine wk ?_; clear ww1; (repeat' first | exact True.intro | refine Lf.mk ?_ ?_); all_goals intro hP)
    (refine resX ?_; try exact True.intro)
  | false =>
  cases q4 : (s.toList == (⟨#[100, 101, 108, 97, 121]⟩ : ByteArray).toList) with
  | true =>
    have hq := And.intro q0 (And.intro q1 (And.intro q2 (And.intro q3 q4)))
    have hk : keyB s = true := by unfold keyB; rw [e, q4]; simp
    rw [hk]
    clear e hk q0 q1 q2 q3 q4
    (refine ARun.intro Try.func92 rfl Try.call92 Try.ntmps92 Try.results92 ?_; simp only [List.length_cons, List.length_nil, List.length_map, Nat.reduceAdd, Nat.reduceSub, List.replicate_succ, List.replicate_zero, List.cons_append, List.nil_append])
    (have ww1 := hq; refine wk ?_; clear ww1; (repeat' first | exact True.intro | refine Lf.mk ?_ ?_); all_goals intro hP)
    (refine resX ?_; try exact True.intro)
  | false =>
  cases q5 : (s.toList == (⟨#[114, 111, 111, 109]⟩ : ByteArray).toList) with
  | true =>
    have hq := And.intro q0 (And.intro q1 (And.intro q2 (And.intro q3 (And.intro q4 q5))))
    have hk : keyB s = true := by unfold keyB; rw [e, q5]; simp
    rw [hk]
    clear e hk q0 q1 q2 q3 q4 q5
    (refine ARun.intro Try.func92 rfl Try.call92 Try.ntmps92 Try.results92 ?_; simp only [List.length_cons, List.length_nil, List.length_map, Nat.reduceAdd, Nat.reduceSub, List.replicate_succ, List.replicate_zero, List.cons_append, List.nil_append])
    (have ww1 := hq; refine wk ?_; clear ww1; (repeat' first | exact True.intro | refine Lf.mk ?_ ?_); all_goals intro hP)
    (refine resX ?_; try exact True.intro)
  | false =>
  cases q6 : (s.toList == (⟨#[98, 97, 99, 107]⟩ : ByteArray).toList) with
  | true =>
    have hq := And.intro q0 (And.intro q1 (And.intro q2 (And.intro q3 (And.intro q4 (And.intro q5 q6)))))
    have hk : keyB s = true := by unfold keyB; rw [e, q6]; simp
    rw [hk]
    clear e hk q0 q1 q2 q3 q4 q5 q6
    (refine ARun.intro Try.func92 rfl Try.call92 Try.ntmps92 Try.results92 ?_; simp only [List.length_cons, List.length_nil, List.length_map, Nat.reduceAdd, Nat.reduceSub, List.replicate_succ, List.replicate_zero, List.cons_append, List.nil_append])
    (have ww1 := hq; refine wk ?_; clear ww1; (repeat' first | exact True.intro | refine Lf.mk ?_ ?_); all_goals intro hP)
    (refine resX ?_; try exact True.intro)
  | false =>
  cases q7 : (s.toList == (⟨#[112, 97, 116, 104, 115]⟩ : ByteArray).toList) with
  | true =>
    have hq := And.intro q0 (And.intro q1 (And.intro q2 (And.intro q3 (And.intro q4 (And.intro q5 (And.intro q6 q7))))))
    have hk : keyB s = true := by unfold keyB; rw [e, q7]; simp
    rw [hk]
    clear e hk q0 q1 q2 q3 q4 q5 q6 q7
    (refine ARun.intro Try.func92 rfl Try.call92 Try.ntmps92 Try.results92 ?_; simp only [List.length_cons, List.length_nil, List.length_map, Nat.reduceAdd, Nat.reduceSub, List.replicate_succ, List.replicate_zero, List.cons_append, List.nil_append])
    (have ww1 := hq; refine wk ?_; clear ww1; (repeat' first | exact True.intro | refine Lf.mk ?_ ?_); all_goals intro hP)
    (refine resX ?_; try exact True.intro)
  | false =>
  cases q8 : (s.toList == (⟨#[119, 105, 110, 100, 111, 119]⟩ : ByteArray).toList) with
  | true =>
    have hq := And.intro q0 (And.intro q1 (And.intro q2 (And.intro q3 (And.intro q4 (And.intro q5 (And.intro q6 (And.intro q7 q8)))))))
    have hk : keyB s = true := by unfold keyB; rw [e, q8]; simp
    rw [hk]
    clear e hk q0 q1 q2 q3 q4 q5 q6 q7 q8
    (refine ARun.intro Try.func92 rfl Try.call92 Try.ntmps92 Try.results92 ?_; simp only [List.length_cons, List.length_nil, List.length_map, Nat.reduceAdd, Nat.reduceSub, List.replicate_succ, List.replicate_zero, List.cons_append, List.nil_append])
    (have ww1 := hq; refine wk ?_; clear ww1; (repeat' first | exact True.intro | refine Lf.mk ?_ ?_); all_goals intro hP)
    (refine resX ?_; try exact True.intro)
  | false =>
  cases q9 : (s.toList == (⟨#[115, 116, 97, 114, 116]⟩ : ByteArray).toList) with
  | true =>
    have hq := And.intro q0 (And.intro q1 (And.intro q2 (And.intro q3 (And.intro q4 (And.intro q5 (And.intro q6 (And.intro q7 (And.intro q8 q9))))))))
    have hk : keyB s = true := by unfold keyB; rw [e, q9]; simp
    rw [hk]
    clear e hk q0 q1 q2 q3 q4 q5 q6 q7 q8 q9
    (refine ARun.intro Try.func92 rfl Try.call92 Try.ntmps92 Try.results92 ?_; simp only [List.length_cons, List.length_nil, List.length_map, Nat.reduceAdd, Nat.reduceSub, List.replicate_succ, List.replicate_zero, List.cons_append, List.nil_append])
    (have ww1 := hq; refine wk ?_; clear ww1; (repeat' first | exact True.intro | refine Lf.mk ?_ ?_); all_goals intro hP)
    (refine resX ?_; try exact True.intro)
  | false =>
  cases q10 : (s.toList == (⟨#[112, 97, 99, 101]⟩ : ByteArray).toList) with
  | true =>
    have hq := And.intro q0 (And.intro q1 (And.intro q2 (And.intro q3 (And.intro q4 (And.intro q5 (And.intro q6 (And.intro q7 (And.intro q8 (And.intro q9 q10)))))))))
    have hk : keyB s = true := by unfold keyB; rw [e, q10]; simp
    rw [hk]
    clear e hk q0 q1 q2 q3 q4 q5 q6 q7 q8 q9 q10
    (refine ARun.intro Try.func92 rfl Try.call92 Try.ntmps92 Try.results92 ?_; simp only [List.length_cons, List.length_nil, List.length_map, Nat.reduceAdd, Nat.reduceSub, List.replicate_succ, List.replicate_zero, List.cons_append, List.nil_append])
    (have ww1 := hq; refine wk ?_; clear ww1; (repeat' first | exact True.intro | refine Lf.mk ?_ ?_); all_goals intro hP)
    (refine resX ?_; try exact True.intro)
  | false =>
  cases q11 : (s.toList == (⟨#[118, 97, 114]⟩ : ByteArray).toList) with
  | true =>
    have hq := And.intro q0 (And.intro q1 (And.intro q2 (And.intro q3 (And.intro q4 (And.intro q5 (And.intro q6 (And.intro q7 (And.intro q8 (And.intro q9 (And.intro q10 q11))))))))))
    have hk : keyB s = true := by unfold keyB; rw [e, q11]; simp
    rw [hk]
    clear e hk q0 q1 q2 q3 q4 q5 q6 q7 q8 q9 q10 q11
    (refine ARun.intro Try.func92 rfl Try.call92 Try.ntmps92 Try.results92 ?_; simp only [List.length_cons, List.length_nil, List.length_map, Nat.reduceAdd, Nat.reduceSub, List.replicate_succ, List.replicate_zero, List.cons_append, List.nil_append])
    (have ww1 := hq; refine wk ?_; clear ww1; (repeat' first | exact True.intro | refine Lf.mk ?_ ?_); all_goals intro hP)
    (refine resX ?_; try exact True.intro)
  | false =>
  cases q12 : (s.toList == (⟨#[111, 110]⟩ : ByteArray).toList) with
  | true =>
    have hq := And.intro q0 (And.intro q1 (And.intro q2 (And.intro q3 (And.intro q4 (And.intro q5 (And.intro q6 (And.intro q7 (And.intro q8 (And.intro q9 (And.intro q10 (And.intro q11 q12)))))))))))
    have hk : keyB s = true := by unfold keyB; rw [e, q12]; simp
    rw [hk]
    clear e hk q0 q1 q2 q3 q4 q5 q6 q7 q8 q9 q10 q11 q12
    (refine ARun.intro Try.func92 rfl Try.call92 Try.ntmps92 Try.results92 ?_; simp only [List.length_cons, List.length_nil, List.length_map, Nat.reduceAdd, Nat.reduceSub, List.replicate_succ, List.replicate_zero, List.cons_append, List.nil_append])
    (have ww1 := hq; refine wk ?_; clear ww1; (repeat' first | exact True.intro | refine Lf.mk ?_ ?_); all_goals intro hP)
    (refine resX ?_; try exact True.intro)
  | false =>
  cases q13 : (s.toList == (⟨#[105, 102]⟩ : ByteArray).toList) with
  | true =>
    have hq := And.intro q0 (And.intro q1 (And.intro q2 (And.intro q3 (And.intro q4 (And.intro q5 (And.intro q6 (And.intro q7 (And.intro q8 (And.intro q9 (And.intro q10 (And.intro q11 (And.intro q12 q13))))))))))))
    have hk : keyB s = true := by unfold keyB; rw [e, q13]; simp
    rw [hk]
    clear e hk q0 q1 q2 q3 q4 q5 q6 q7 q8 q9 q10 q11 q12 q13
    (refine ARun.intro Try.func92 rfl Try.call92 Try.ntmps92 Try.results92 ?_; simp only [List.length_cons, List.length_nil, List.length_map, Nat.reduceAdd, Nat.reduceSub, List.replicate_succ, List.replicate_zero, List.cons_append, List.nil_append])
    (have ww1 := hq; refine wk ?_; clear ww1; (repeat' first | exact True.intro | refine Lf.mk ?_ ?_); all_goals intro hP)
    (refine resX ?_; try exact True.intro)
  | false =>
  cases q14 : (s.toList == (⟨#[101, 108, 115, 101]⟩ : ByteArray).toList) with
  | true =>
    have hq := And.intro q0 (And.intro q1 (And.intro q2 (And.intro q3 (And.intro q4 (And.intro q5 (And.intro q6 (And.intro q7 (And.intro q8 (And.intro q9 (And.intro q10 (And.intro q11 (And.intro q12 (And.intro q13 q14)))))))))))))
    have hk : keyB s = true := by unfold keyB; rw [e, q14]; simp
    rw [hk]
    clear e hk q0 q1 q2 q3 q4 q5 q6 q7 q8 q9 q10 q11 q12 q13 q14
    (refine ARun.intro Try.func92 rfl Try.call92 Try.ntmps92 Try.results92 ?_; simp only [List.length_cons, List.length_nil, List.length_map, Nat.reduceAdd, Nat.reduceSub, List.replicate_succ, List.replicate_zero, List.cons_append, List.nil_append])
    (have ww1 := hq; refine wk ?_; clear ww1; (repeat' first | exact True.intro | refine Lf.mk ?_ ?_); all_goals intro hP)
    (refine resX ?_; try exact True.intro)
  | false =>
  cases q15 : (s.toList == (⟨#[109, 105, 110]⟩ : ByteArray).toList) with
  | true =>
    have hq := And.intro q0 (And.intro q1 (And.intro q2 (And.intro q3 (And.intro q4 (And.intro q5 (And.intro q6 (And.intro q7 (And.intro q8 (And.intro q9 (And.intro q10 (And.intro q11 (And.intro q12 (And.intro q13 (And.intro q14 q15))))))))))))))
    have hk : keyB s = true := by unfold keyB; rw [e, q15]; simp
    rw [hk]
    clear e hk q0 q1 q2 q3 q4 q5 q6 q7 q8 q9 q10 q11 q12 q13 q14 q15
    (refine ARun.intro Try.func92 rfl Try.call92 Try.ntmps92 Try.results92 ?_; simp only [List.length_cons, List.length_nil, List.length_map, Nat.reduceAdd, Nat.reduceSub, List.replicate_succ, List.replicate_zero, List.cons_append, List.nil_append])
    (have ww1 := hq; refine wk ?_; clear ww1; (repeat' first | exact True.intro | refine Lf.mk ?_ ?_); all_goals intro hP)
    (refine resX ?_; try exact True.intro)
  | false =>
  cases q16 : (s.toList == (⟨#[109, 97, 120]⟩ : ByteArray).toList) with
  | true =>
    have hq := And.intro q0 (And.intro q1 (And.intro q2 (And.intro q3 (And.intro q4 (And.intro q5 (And.intro q6 (And.intro q7 (And.intro q8 (And.intro q9 (And.intro q10 (And.intro q11 (And.intro q12 (And.intro q13 (And.intro q14 (And.intro q15 q16)))))))))))))))
    have hk : keyB s = true := by unfold keyB; rw [e, q16]; simp
    rw [hk]
    clear e hk q0 q1 q2 q3 q4 q5 q6 q7 q8 q9 q10 q11 q12 q13 q14 q15 q16
    (refine ARun.intro Try.func92 rfl Try.call92 Try.ntmps92 Try.results92 ?_; simp only [List.length_cons, List.length_nil, List.length_map, Nat.reduceAdd, Nat.reduceSub, List.replicate_succ, List.replicate_zero, List.cons_append, List.nil_append])
    (have ww1 := hq; refine wk ?_; clear ww1; (repeat' first | exact True.intro | refine Lf.mk ?_ ?_); all_goals intro hP)
    (refine resX ?_; try exact True.intro)
  | false =>
  cases q17 : (s.toList == (⟨#[117, 112]⟩ : ByteArray).toList) with
  | true =>
    have hq := And.intro q0 (And.intro q1 (And.intro q2 (And.intro q3 (And.intro q4 (And.intro q5 (And.intro q6 (And.intro q7 (And.intro q8 (And.intro q9 (And.intro q10 (And.intro q11 (And.intro q12 (And.intro q13 (And.intro q14 (And.intro q15 (And.intro q16 q17))))))))))))))))
    have hk : keyB s = true := by unfold keyB; rw [e, q17]; simp
    rw [hk]
    clear e hk q0 q1 q2 q3 q4 q5 q6 q7 q8 q9 q10 q11 q12 q13 q14 q15 q16 q17
    (refine ARun.intro Try.func92 rfl Try.call92 Try.ntmps92 Try.results92 ?_; simp only [List.length_cons, List.length_nil, List.length_map, Nat.reduceAdd, Nat.reduceSub, List.replicate_succ, List.replicate_zero, List.cons_append, List.nil_append])
    (have ww1 := hq; refine wk ?_; clear ww1; (repeat' first | exact True.intro | refine Lf.mk ?_ ?_); all_goals intro hP)
    (refine resX ?_; try exact True.intro)
  | false =>
  have hq := And.intro q0 (And.intro q1 (And.intro q2 (And.intro q3 (And.intro q4 (And.intro q5 (And.intro q6 (And.intro q7 (And.intro q8 (And.intro q9 (And.intro q10 (And.intro q11 (And.intro q12 (And.intro q13 (And.intro q14 (And.intro q15 (And.intro q16 q17))))))))))))))))
  have hk : keyB s = (inB wUnits s || (inB wEvents s || (inB wPolicies s || inB wInputs s))) := by
    unfold keyB; rw [e, q0, q1, q2, q3, q4, q5, q6, q7, q8, q9, q10, q11, q12, q13, q14, q15, q16, q17]; simp
  rw [hk]
  clear e hk q0 q1 q2 q3 q4 q5 q6 q7 q8 q9 q10 q11 q12 q13 q14 q15 q16 q17
  generalize inB wUnits s = uu at *
  generalize inB wEvents s = ee at *
  generalize inB wPolicies s = pp at *
  generalize inB wInputs s = ii at *
  (refine ARun.intro Try.func92 rfl Try.call92 Try.ntmps92 Try.results92 ?_; simp only [List.length_cons, List.length_nil, List.length_map, Nat.reduceAdd, Nat.reduceSub, List.replicate_succ, List.replicate_zero, List.cons_append, List.nil_append])
  (have ww1 := hq; have cc1 := fun z1 => h1 z1; have cc2 := fun z1 => h2 z1; have cc3 := fun z1 => h3 z1; have cc4 := fun z1 => h4 z1; refine wk ?_; clear ww1 cc1 cc2 cc3 cc4; (repeat' first | exact True.intro | refine Lf.mk ?_ ?_); all_goals intro hP)
  all_goals clear h1 h2 h3 h4
  all_goals ((refine resX ?_; try exact True.intro))
  all_goals simp_all
end Go.Proofs.Ytiifbdkedainnaa.Y
