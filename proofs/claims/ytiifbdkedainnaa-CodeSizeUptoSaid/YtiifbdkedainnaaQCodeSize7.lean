/- Part 7 of the proofs of seat Ytiifbdkedainnaa: what the texts behind it lean on (abstract memory, walks of functions, plain laws). -/
import Derived.Test.YtiifbdkedainnaaM6

set_option maxHeartbeats 8000000
set_option maxRecDepth 100000
set_option linter.unusedVariables false
set_option linter.unusedSimpArgs false
set_option linter.unusedSectionVars false
namespace Go.Proofs.Ytiifbdkedainnaa.Y
open Go.Proofs.Ytiifbdkedainnaa.AL Go.Proofs Go
attribute [local irreducible] AWP AWL AWG AWR AWE AWX AWO AWSeq AWSG AWSR AWSO AWSE AWSF GoodP OGW OGR OGE OGX PGW PGR PGE Wk AWLoop AWPD AWLD

theorem RNodes_run (e : Ex) : nodes e ≤ 1000000000 → ∀ (H0 : List AObj), ARun Try.prog 36 [.ag (cE e)] H0 (.ret (.i (nodes e : Nat)) H0) := by
  induction e using Ex.ind with
  | h e ih =>
    intro hn H0
    rw [nodes_eq] at hn
    rw [nodes_eq]
    (refine ARun.intro Try.func36 rfl Try.call36 Try.ntmps36 Try.results36 ?_; simp only [List.length_cons, List.length_nil, List.length_map, Nat.reduceAdd, Nat.reduceSub, List.replicate_succ, List.replicate_zero, List.cons_append, List.nil_append])
    refine awp_len_agg 0 3 rfl rfl fun hlen => ?_
    rw [List.length_map] at hlen
    (refine wk ?_; (repeat' first | exact True.intro | refine Lf.mk ?_ ?_); all_goals intro hP)
    refine awp_loop_ind (σ := Nat × Nat) (fun s => e.kids.length - s.1) (fun s => s.1 ≤ e.kids.length ∧ s.2 + nodesL (e.kids.drop s.1) = 1 + nodesL e.kids)
      (fun s => (.any :: .p H0.length 0 :: .any :: .i s.2 :: .i s.1 :: .any :: .any :: .any :: .any :: .any :: .any :: .any :: .any :: .any :: .any :: .any :: .any :: .any :: .any :: .any :: .any :: []))
      (fun s => H0 ++ [.cells 71 [.i e.op, .i e.n, .i e.unit, .rs 4 (e.kids.map encE)]]) (0, 1) ⟨by omega, rfl⟩ (by (refine fgtX ?_; try exact True.intro)) ?_
    rintro ⟨i, n⟩ ⟨h2, h4⟩
    simp only at h2 h4 ⊢
    cases hr : e.kids.drop i with
    | nil =>
      have hlt := drop_nil hr
      rw [hr, nodesL, Nat.add_zero] at h4
      (have ww1 := hlt; refine wk ?_; clear ww1; (repeat' first | exact True.intro | refine Lf.mk ?_ ?_); all_goals intro hP)
      (refine resX ?_; try exact True.intro)
      rw [h4]
    | cons k rest =>
      obtain ⟨hk, hlt, hd, hm⟩ := drop_cons hr
      have hw : IntKind.i64.wrap ((i : Int) + 1) = ((i + 1 : Nat) : Int) := by rw [wrap_of (by omega) (by omega)]; omega
      have hk' : (e.kids.map encE)[i]? = some (cE k) := by rw [List.getElem?_map, hk, Option.map_some, encE_eq]
      rw [hr, nodesL] at h4
      have hkk := nodes_mem hm
      have c := fun H0 => ih k hm (by omega) H0
      have hw2 : IntKind.i64.wrap ((n : Int) + (nodes k : Nat)) = ((n + nodes k : Nat) : Int) := by rw [wrap_of (by omega) (by omega)]; omega
      (have ww1 := hlt; have ww2 := hk'; have ww3 := hw; have ww4 := hw2; have cc1 := fun z1 => c z1; refine wk ?_; clear ww1 ww2 ww3 ww4 cc1; (repeat' first | exact True.intro | refine Lf.mk ?_ ?_); all_goals intro hP)
      refine ⟨(i + 1, n + nodes k), by simp only; omega, ⟨by simp only; omega, by simp only; rw [hd]; omega⟩, ?_⟩
      (refine fgtX ?_; try exact True.intro)
theorem lsize_run : ∀ (N : Nat) (l : List St), totL l ≤ N → wSL l ≤ 900000 → ∀ (H0 : List AObj), ARun Try.prog 20 [.rs 13 (l.map encS)] H0 (.ret (.i (insSL l : Nat)) H0) := by
  intro N
  induction N with
  | zero =>
    intro l hN _ H0
    have hl : l = [] := by have := len_totL l; exact List.eq_nil_of_length_eq_zero (by omega)
    subst hl
    (refine ARun.intro Try.func20 rfl Try.call20 Try.ntmps20 Try.results20 ?_; simp only [List.length_cons, List.length_nil, List.length_map, Nat.reduceAdd, Nat.reduceSub, List.replicate_succ, List.replicate_zero, List.cons_append, List.nil_append])
    (refine wk ?_; (repeat' first | exact True.intro | refine Lf.mk ?_ ?_); all_goals intro hP)
    refine awp_loop 1 ?_
    (refine wkO ?_; (repeat' first | exact True.intro | refine Lf.mk ?_ ?_); all_goals intro hP)
    (refine resX ?_; try exact True.intro)
  | succ N ihN =>
    intro l hN hwl H0
    (refine ARun.intro Try.func20 rfl Try.call20 Try.ntmps20 Try.results20 ?_; simp only [List.length_cons, List.length_nil, List.length_map, Nat.reduceAdd, Nat.reduceSub, List.replicate_succ, List.replicate_zero, List.cons_append, List.nil_append])
    refine awp_len 0 rfl fun hlen => ?_
    rw [List.length_map] at hlen
    have lw : (l.map encS).length = l.length := List.length_map encS
    (have ww1 := lw; refine wk ?_; clear ww1; (repeat' first | exact True.intro | refine Lf.mk ?_ ?_); all_goals intro hP)
    refine awp_loop_ind (σ := Nat × Nat) (fun s => l.length - s.1) (fun s => s.1 ≤ l.length ∧ s.2 + insSL (l.drop s.1) = insSL l)
      (fun s => (.any :: .any :: .any :: .i s.2 :: .any :: .any :: .rs 13 (l.map encS) :: .i l.length :: .i s.1 :: .any :: .any :: .any :: .any :: .any :: .any :: .any :: .any :: .any :: .any :: .any :: .any :: .any :: .any :: .any :: .any :: .any :: .any :: .any :: .any :: .any :: .any :: .any :: .any :: .any :: .any :: .any :: .any :: .any :: .any :: .any :: .any :: .any :: []))
      (fun s => H0) (0, 0) ⟨Nat.zero_le _, by simp⟩ (by (refine fgtX ?_; try exact True.intro)) ?_
    rintro ⟨i, n⟩ ⟨h1, h4⟩
    simp only at h1 h4 ⊢
    have hin := insSL_le l
    cases hr : l.drop i with
    | nil =>
      have hlt := drop_nil hr
      rw [hr, insSL, Nat.add_zero] at h4
      (have ww1 := hlt; refine wk ?_; clear ww1; (repeat' first | exact True.intro | refine Lf.mk ?_ ?_); all_goals intro hP)
      (refine resX ?_; try exact True.intro)
      rw [h4]
    | cons s rest =>
      obtain ⟨hk, hlt, hd, hm⟩ := drop_cons hr
      have hw : IntKind.i64.wrap ((i : Int) + 1) = ((i + 1 : Nat) : Int) := by rw [wrap_of (by omega) (by omega)]; omega
      have hk' : (l.map encS)[i]? = some (cS s) := by rw [List.getElem?_map, hk, Option.map_some, encS_eq]
      have hmm := totL_mem hm
      rw [tot_eq] at hmm
      have hws : wS s ≤ wSL l := by
        rw [wSL_sum]
        clear hwl hmm hN hlen lw hin h1 h4 hr hk hlt hd hk' hw
        induction l with
        | nil => cases hm
        | cons x xs ih =>
          simp only [sumM]
          rcases List.mem_cons.1 hm with rfl | hm
          · omega
          · have := ih hm; omega
      rw [wS_eq] at hws
      rw [hr, insSL, insS_eq] at h4
      have ca := fun H0 => RNodes_run s.a (by omega) H0
      have cb := fun H0 => RNodes_run s.b (by omega) H0
      have ct := fun H0 => ihN s.thn (by omega) (by omega) H0
      have ce := fun H0 => ihN s.els (by omega) (by omega) H0
      have lt := insSL_le s.thn
      have le := insSL_le s.els
      by_cases k2 : s.kind = 2
      · rw [if_pos k2] at h4
        generalize nodes s.a = na at *
        generalize nodes s.b = nb at *
        generalize insSL s.thn = nt at *
        generalize insSL s.els = ne at *
        have w1 : IntKind.i64.wrap ((na : Int) + 1) = (na : Int) + 1 := wrap_of (by omega) (by omega)
        have w2 : IntKind.i64.wrap ((n : Int) + ((na : Int) + 1)) = (n : Int) + ((na : Int) + 1) := wrap_of (by omega) (by omega)
        have w3 : IntKind.i64.wrap ((nb : Int) + (nt : Int)) = (nb : Int) + (nt : Int) := wrap_of (by omega) (by omega)
        have w4 : IntKind.i64.wrap ((nb : Int) + (nt : Int) + (ne : Int)) = (nb : Int) + (nt : Int) + (ne : Int) := wrap_of (by omega) (by omega)
        have w5 : IntKind.i64.wrap ((n : Int) + ((na : Int) + 1) + ((nb : Int) + (nt : Int) + (ne : Int))) = ((n + (na + (1 + (nb + (nt + ne)))) : Nat) : Int) := by rw [wrap_of (by omega) (by omega)]; omega
        have w6 : IntKind.i64.wrap (((n + (na + (1 + (nb + (nt + ne)))) : Nat) : Int) + 1) = ((n + (na + (1 + (nb + (nt + (ne + 1))))) : Nat) : Int) := by rw [wrap_of (by omega) (by omega)]; omega
        by_cases hel : s.els.length = 0
        · rw [if_pos hel] at h4
          (have ww1 := hlt; have ww2 := hk'; have ww3 := hw; have ww4 := k2; have ww5 := w1; have ww6 := w2; have cc1 := fun z1 => ca z1; have cc2 := fun z1 => cb z1; have cc3 := fun z1 => ct z1; have cc4 := fun z1 => ce z1; refine wk ?_; clear ww1 ww2 ww3 ww4 ww5 ww6 cc1 cc2 cc3 cc4; (repeat' first | exact True.intro | refine Lf.mk ?_ ?_); all_goals intro hP)
          refine awp_drawnR_k (id := 7) [3, 6, 10] [] [.win [0, 1, 2, 3], .win [0], .win [0], .eff 0, .win [0, 1], .win [0, 1], .eff 1, .win [2, 3], .win [0, 1, 2], .win [0, 1, 2], .eff 2, .win [3], .win [3], .win [3]] 3 [3] rfl (by as_aux_lemma => kernel_rfl) fun Kn Kp hn hp => ?_
          (have ww1 := hlt; have ww2 := hk'; have ww3 := hw; have ww4 := k2; have ww5 := w3; have ww6 := w4; have ww7 := w5; have cc1 := fun z1 => cb z1; have cc2 := fun z1 => ct z1; have cc3 := fun z1 => ce z1; refine wkS ?_; clear ww1 ww2 ww3 ww4 ww5 ww6 ww7 cc1 cc2 cc3; (repeat' first | exact True.intro | refine Lf.mk ?_ ?_); all_goals intro hP)
          refine hn _ _ ?_
          clear hn hp Kn Kp
          (have ww1 := hlt; have ww2 := hk'; have ww3 := hw; have ww4 := hel; refine wkO ?_; clear ww1 ww2 ww3 ww4; (repeat' first | exact True.intro | refine Lf.mk ?_ ?_); all_goals intro hP)
          refine ⟨(i + 1, n + (na + (1 + (nb + (nt + ne))))), by simp only; omega, ⟨by simp only; omega, by simp only; rw [hd]; omega⟩, ?_⟩
          (refine dropX ?_; try exact True.intro)
        · rw [if_neg hel] at h4
          (have ww1 := hlt; have ww2 := hk'; have ww3 := hw; have ww4 := k2; have ww5 := w1; have ww6 := w2; have cc1 := fun z1 => ca z1; have cc2 := fun z1 => cb z1; have cc3 := fun z1 => ct z1; have cc4 := fun z1 => ce z1; refine wk ?_; clear ww1 ww2 ww3 ww4 ww5 ww6 cc1 cc2 cc3 cc4; (repeat' first | exact True.intro | refine Lf.mk ?_ ?_); all_goals intro hP)
          refine awp_drawnR_k (id := 7) [3, 6, 10] [] [.win [0, 1, 2, 3], .win [0], .win [0], .eff 0, .win [0, 1], .win [0, 1], .eff 1, .win [2, 3], .win [0, 1, 2], .win [0, 1, 2], .eff 2, .win [3], .win [3], .win [3]] 3 [3] rfl (by as_aux_lemma => kernel_rfl) fun Kn Kp hn hp => ?_
          (have ww1 := hlt; have ww2 := hk'; have ww3 := hw; have ww4 := k2; have ww5 := w3; have ww6 := w4; have ww7 := w5; have cc1 := fun z1 => cb z1; have cc2 := fun z1 => ct z1; have cc3 := fun z1 => ce z1; refine wkS ?_; clear ww1 ww2 ww3 ww4 ww5 ww6 ww7 cc1 cc2 cc3; (repeat' first | exact True.intro | refine Lf.mk ?_ ?_); all_goals intro hP)
          refine hn _ _ ?_
          clear hn hp Kn Kp
          (have ww1 := hlt; have ww2 := hk'; have ww3 := hw; have ww4 := w6; refine wkO ?_; clear ww1 ww2 ww3 ww4; (repeat' first | exact True.intro | refine Lf.mk ?_ ?_); all_goals intro hP)
          refine ⟨(i + 1, n + (na + (1 + (nb + (nt + (ne + 1)))))), by simp only; omega, ⟨by simp only; omega, by simp only; rw [hd]; omega⟩, ?_⟩
          (refine dropX ?_; try exact True.intro)
      · rw [if_neg k2, Nat.add_zero] at h4
        generalize nodes s.a = na at *
        have k2' : (s.kind == 2) = false := by simpa using k2
        have w1 : IntKind.i64.wrap ((na : Int) + 1) = (na : Int) + 1 := wrap_of (by omega) (by omega)
        have w2 : IntKind.i64.wrap ((n : Int) + ((na : Int) + 1)) = ((n + (na + 1) : Nat) : Int) := by rw [wrap_of (by omega) (by omega)]; omega
        (have ww1 := hlt; have ww2 := hk'; have ww3 := hw; have ww4 := k2'; have ww5 := w1; have ww6 := w2; have cc1 := fun z1 => ca z1; refine wk ?_; clear ww1 ww2 ww3 ww4 ww5 ww6 cc1; (repeat' first | exact True.intro | refine Lf.mk ?_ ?_); all_goals intro hP)
        refine ⟨(i + 1, n + (na + 1)), by simp only; omega, ⟨by simp only; omega, by simp only; rw [hd]; omega⟩, ?_⟩
        (refine dropX ?_; try exact True.intro)
theorem comp_on {p : Prg} (h : validB p = true) : compS p = (if (codeSs p.on0 0).length ≤ 4000 ∧ (codeSs p.on1 0).length ≤ 4000 ∧ (codeSs p.on2 0).length ≤ 4000 ∧ (codeSs p.on3 0).length ≤ 4000 ∧ (codeSs p.on4 0).length ≤ 4000
      then (⟨codeSs p.on0 0, codeSs p.on1 0, codeSs p.on2 0, codeSs p.on3 0, codeSs p.on4 0⟩, 0) else (cod0, 2)) := by unfold compS; rw [if_pos h]
theorem CodeSize_run (p : Prg) (hp : PFine p) (H0 : List AObj) :
    ARun Try.prog 6 [.ag (cP p)] H0 (.ret (.b true) H0) := by
  have hh := fun H0 => head9_run H0
  have hf := fun H0 => hp.few H0
  cases hfew : fewB5 p with
  | false =>
    simp only [hfew] at hf
    (refine ARun.intro Try.func6 rfl Try.call6 Try.ntmps6 Try.results6 ?_; simp only [List.length_cons, List.length_nil, List.length_map, Nat.reduceAdd, Nat.reduceSub, List.replicate_succ, List.replicate_zero, List.cons_append, List.nil_append])
    (have cc1 := fun z1 => hh z1; have cc2 := fun z1 => hf z1; refine wk ?_; clear cc1 cc2; (repeat' first | exact True.intro | refine Lf.mk ?_ ?_); all_goals intro hP)
    (refine resX ?_; try exact True.intro)
  | true =>
    simp only [hfew] at hf
    have cv := fun H0 => hp.rvalid H0
    cases hval : validB p with
    | false =>
      rw [hval] at cv
      (refine ARun.intro Try.func6 rfl Try.call6 Try.ntmps6 Try.results6 ?_; simp only [List.length_cons, List.length_nil, List.length_map, Nat.reduceAdd, Nat.reduceSub, List.replicate_succ, List.replicate_zero, List.cons_append, List.nil_append])
      (have cc1 := fun z1 => hh z1; have cc2 := fun z1 => hf z1; have cc3 := fun z1 => cv z1; refine wk ?_; clear cc1 cc2 cc3; (repeat' first | exact True.intro | refine Lf.mk ?_ ?_); all_goals intro hP)
      (refine resX ?_; try exact True.intro)
    | true =>
      rw [hval] at cv
      have c1 := fun H0 => hp.comp hfew H0
      have hfa := (few5_all hfew).2.2.2
      obtain ⟨vs, V⟩ := validB_val hval
      have y0 := fun H0 => lsize_run _ p.on0 (Nat.le_refl _) (by omega) H0
      have y1 := fun H0 => lsize_run _ p.on1 (Nat.le_refl _) (by omega) H0
      have y2 := fun H0 => lsize_run _ p.on2 (Nat.le_refl _) (by omega) H0
      have y3 := fun H0 => lsize_run _ p.on3 (Nat.le_refl _) (by omega) H0
      have y4 := fun H0 => lsize_run _ p.on4 (Nat.le_refl _) (by omega) H0
      have g0 := codeSs_len p.on0 V.h0.1 0
      have g1 := codeSs_len p.on1 V.h1.1 0
      have g2 := codeSs_len p.on2 V.h2.1 0
      have g3 := codeSs_len p.on3 V.h3.1 0
      have g4 := codeSs_len p.on4 V.h4.1 0
      have e1 := comp_on hval
      rw [e1] at c1
      rw [← g0] at y0
      rw [← g1] at y1
      rw [← g2] at y2
      rw [← g3] at y3
      rw [← g4] at y4
      clear e1 g0 g1 g2 g3 g4 V hfa
      generalize codeSs p.on0 0 = C0 at *
      generalize codeSs p.on1 0 = C1 at *
      generalize codeSs p.on2 0 = C2 at *
      generalize codeSs p.on3 0 = C3 at *
      generalize codeSs p.on4 0 = C4 at *
      by_cases hl : C0.length ≤ 4000 ∧ C1.length ≤ 4000 ∧ C2.length ≤ 4000 ∧ C3.length ≤ 4000 ∧ C4.length ≤ 4000
      · rw [if_pos hl] at c1
        (refine ARun.intro Try.func6 rfl Try.call6 Try.ntmps6 Try.results6 ?_; simp only [List.length_cons, List.length_nil, List.length_map, Nat.reduceAdd, Nat.reduceSub, List.replicate_succ, List.replicate_zero, List.cons_append, List.nil_append])
        (have cc1 := fun z1 => hh z1; have cc2 := fun z1 => hf z1; have cc3 := fun z1 => cv z1; have cc4 := fun z1 => c1 z1; refine wk ?_; clear cc1 cc2 cc3 cc4; (repeat' first | exact True.intro | refine Lf.mk ?_ ?_); all_goals intro hP)
        refine awp_loop 6 ?_
        (have cc1 := fun z1 => y0 z1; have cc2 := fun z1 => y1 z1; have cc3 := fun z1 => y2 z1; have cc4 := fun z1 => y3 z1; have cc5 := fun z1 => y4 z1; refine wkO ?_; clear cc1 cc2 cc3 cc4 cc5; (repeat' first | exact True.intro | refine Lf.mk ?_ ?_); all_goals intro hP)
        (refine resX ?_; try exact True.intro)
      · rw [if_neg hl] at c1
        have hx : 4000 < C0.length ∨ (C0.length ≤ 4000 ∧ (4000 < C1.length ∨ (C1.length ≤ 4000 ∧ (4000 < C2.length ∨ (C2.length ≤ 4000 ∧ (4000 < C3.length ∨ (C3.length ≤ 4000 ∧ 4000 < C4.length))))))) := by omega
        clear hl
        rcases hx with h | ⟨h0, h | ⟨h1, h | ⟨h2, h | ⟨h3, h⟩⟩⟩⟩
        all_goals
          (refine ARun.intro Try.func6 rfl Try.call6 Try.ntmps6 Try.results6 ?_; simp only [List.length_cons, List.length_nil, List.length_map, Nat.reduceAdd, Nat.reduceSub, List.replicate_succ, List.replicate_zero, List.cons_append, List.nil_append])
          (have cc1 := fun z1 => hh z1; have cc2 := fun z1 => hf z1; have cc3 := fun z1 => cv z1; have cc4 := fun z1 => c1 z1; refine wk ?_; clear cc1 cc2 cc3 cc4; (repeat' first | exact True.intro | refine Lf.mk ?_ ?_); all_goals intro hP)
          refine awp_loop 6 ?_
          (have cc1 := fun z1 => y0 z1; have cc2 := fun z1 => y1 z1; have cc3 := fun z1 => y2 z1; have cc4 := fun z1 => y3 z1; have cc5 := fun z1 => y4 z1; refine wkO ?_; clear cc1 cc2 cc3 cc4 cc5; (repeat' first | exact True.intro | refine Lf.mk ?_ ?_); all_goals intro hP)
          (refine resX ?_; try exact True.intro)
end Go.Proofs.Ytiifbdkedainnaa.Y
