/- Part 6 of the proofs of seat YtpfjlifneibhfaaGreat: what the texts behind it lean on (abstract memory, walks of functions, plain laws). -/
import Derived.Test.YtpfjlifneibhfaaGreatB5
set_option linter.unusedSectionVars false
set_option linter.unusedSimpArgs false
set_option linter.unusedVariables false
set_option maxHeartbeats 100000000
set_option maxRecDepth 100000
namespace Go.Proofs.YtpfjlifneibhfaaGreat.AL
abbrev cL (c : Cal) : List PV := [.i c.ev, .i c.i0, .i c.i1, .i c.i2, .i c.i3]
end Go.Proofs.YtpfjlifneibhfaaGreat.AL
namespace Go.Proofs.YtpfjlifneibhfaaGreat.AL
end Go.Proofs.YtpfjlifneibhfaaGreat.AL
namespace Go.Proofs.YtpfjlifneibhfaaGreat.AL
end Go.Proofs.YtpfjlifneibhfaaGreat.AL
namespace Go.Proofs.YtpfjlifneibhfaaGreat.AL
end Go.Proofs.YtpfjlifneibhfaaGreat.AL
namespace Go.Proofs.YtpfjlifneibhfaaGreat.AL
end Go.Proofs.YtpfjlifneibhfaaGreat.AL
namespace Go.Proofs.YtpfjlifneibhfaaGreat.AL
section
variable (st : List Int) (i0 i1 i2 i3 : Int)
end
section
variable (vs : List Vr) (i0 i1 i2 i3 : Int)
end
theorem valE_err {st : List Int} {i0 i1 i2 i3 : Int} (e : Ex) : ∀ x, valE st i0 i1 i2 i3 e = .error x → x = 1 ∨ x = 3 ∨ x = 14 := by
  induction e using Ex.ind with
  | h e ih =>
    intro x h
    have hl : ∀ l : List Ex, (∀ k ∈ l, ∀ x, valE st i0 i1 i2 i3 k = .error x → x = 1 ∨ x = 3 ∨ x = 14) → ∀ x, valEs st i0 i1 i2 i3 l = .error x → x = 1 ∨ x = 3 ∨ x = 14 := by
      intro l
      induction l with
      | nil => intro _ x h; simp [valEs] at h
      | cons k ks ihl =>
        intro hk x h
        simp only [valEs] at h
        split at h
        · rename_i y hy
          cases h
          exact hk k (by simp) _ hy
        · split at h
          · rename_i y hy
            cases h
            exact ihl (fun k hm => hk k (by simp [hm])) _ hy
          · cases h
    rw [valE_eq] at h
    split at h
    · rename_i y hy
      cases h
      exact hl _ ih _ hy
    · unfold nodeV leafV at h
      repeat' split at h
      all_goals first
        | (cases h; exact .inl rfl)
        | (have := calcS_err h; omega)
        | (have := (valS_err h).2; omega)
end Go.Proofs.YtpfjlifneibhfaaGreat.AL
namespace Go.Proofs.YtpfjlifneibhfaaGreat.Y
open Go.Proofs.YtpfjlifneibhfaaGreat.AL Go.Proofs Go
attribute [local irreducible] AWP AWL AWG AWR AWE AWX AWO AWSeq AWSG AWSR AWSO AWSE AWSF GoodP OGW OGR OGE OGX PGW PGR PGE Wk AWLoop AWPD AWLD
theorem RValue_run (n : Int) (H0 : List AObj) : ARun Tryz.prog 68 [.i n] H0 (.ret (.b (decide (-1000000000000 ≤ n) && decide (n ≤ 1000000000000))) H0) := by
  by_cases h1 : -1000000000000 ≤ n
  · (refine ARun.intro Tryz.func68 rfl Tryz.call68 Tryz.ntmps68 Tryz.results68 ?_; simp only [List.length_cons, List.length_nil, List.length_map, Nat.reduceAdd, Nat.reduceSub, List.replicate_succ, List.replicate_zero, List.cons_append, List.nil_append])
    (have ww1 := h1; refine wk ?_; clear ww1; (repeat' first | exact True.intro | refine Lf.mk ?_ ?_); all_goals intro hP)
    (refine resX ?_; try exact True.intro)
    simp [h1]
  · (refine ARun.intro Tryz.func68 rfl Tryz.call68 Tryz.ntmps68 Tryz.results68 ?_; simp only [List.length_cons, List.length_nil, List.length_map, Nat.reduceAdd, Nat.reduceSub, List.replicate_succ, List.replicate_zero, List.cons_append, List.nil_append])
    (have ww1 := h1; refine wk ?_; clear ww1; (repeat' first | exact True.intro | refine Lf.mk ?_ ?_); all_goals intro hP)
    (refine resX ?_; try exact True.intro)
    simp [h1]
theorem RDown_run (a b : Int) (ha : isV a) (hb' : b ≠ 0) (H0 : List AObj) : ARun Tryz.prog 82 [.i a, .i b] H0 (.ret (.i (downS a b)) H0) := by
  have h1 := tdiv_bd ha hb'
  have w1 : IntKind.i64.wrap (a.tdiv b) = a.tdiv b := wrap_of (by omega) (by omega)
  have w2 : IntKind.i64.wrap (a.tdiv b - 1) = a.tdiv b - 1 := wrap_of (by omega) (by omega)
  unfold downS
  by_cases hm : a.tmod b = 0
  · have hm' : (a.tmod b != 0) = false := by simp [hm]
    (refine ARun.intro Tryz.func82 rfl Tryz.call82 Tryz.ntmps82 Tryz.results82 ?_; simp only [List.length_cons, List.length_nil, List.length_map, Nat.reduceAdd, Nat.reduceSub, List.replicate_succ, List.replicate_zero, List.cons_append, List.nil_append])
    (have ww1 := hb'; have ww2 := hm'; have ww3 := w1; refine wk ?_; clear ww1 ww2 ww3; (repeat' first | exact True.intro | refine Lf.mk ?_ ?_); all_goals intro hP)
    (refine resX ?_; try exact True.intro)
    simp [hm]
  · have hm' : (a.tmod b != 0) = true := by simpa using hm
    cases hd : (decide (a < 0) == decide (b < 0)) with
    | true =>
      have hd' : (decide (a < 0) != decide (b < 0)) = false := by simp only [bne, hd]; rfl
      (refine ARun.intro Tryz.func82 rfl Tryz.call82 Tryz.ntmps82 Tryz.results82 ?_; simp only [List.length_cons, List.length_nil, List.length_map, Nat.reduceAdd, Nat.reduceSub, List.replicate_succ, List.replicate_zero, List.cons_append, List.nil_append])
      (have ww1 := hb'; have ww2 := hm'; have ww3 := hd; have ww4 := w1; refine wk ?_; clear ww1 ww2 ww3 ww4; (repeat' first | exact True.intro | refine Lf.mk ?_ ?_); all_goals intro hP)
      (refine resX ?_; try exact True.intro)
      all_goals simp only [hd', Bool.false_eq_true, and_false, if_false]
    | false =>
      have hd' : (decide (a < 0) != decide (b < 0)) = true := by simp only [bne, hd]; rfl
      (refine ARun.intro Tryz.func82 rfl Tryz.call82 Tryz.ntmps82 Tryz.results82 ?_; simp only [List.length_cons, List.length_nil, List.length_map, Nat.reduceAdd, Nat.reduceSub, List.replicate_succ, List.replicate_zero, List.cons_append, List.nil_append])
      (have ww1 := hb'; have ww2 := hm'; have ww3 := hd; have ww4 := w1; have ww5 := w2; refine wk ?_; clear ww1 ww2 ww3 ww4 ww5; (repeat' first | exact True.intro | refine Lf.mk ?_ ?_); all_goals intro hP)
      (refine resX ?_; try exact True.intro)
      all_goals simp only [hd', hm, ne_eq, not_false_eq_true, and_self, if_true]
theorem RHolds_run (a rel b : Int) (hr : 1 ≤ rel ∧ rel ≤ 6) (H0 : List AObj) : ARun Tryz.prog 22 [.i rel, .i a, .i b] H0 (.ret (.b (holdsS a rel b)) H0) := by
  have hc : rel = 1 ∨ rel = 2 ∨ rel = 3 ∨ rel = 4 ∨ rel = 5 ∨ rel = 6 := by omega
  clear hr
  rcases hc with rfl | rfl | rfl | rfl | rfl | rfl
  all_goals
    (refine ARun.intro Tryz.func22 rfl Tryz.call22 Tryz.ntmps22 Tryz.results22 ?_; simp only [List.length_cons, List.length_nil, List.length_map, Nat.reduceAdd, Nat.reduceSub, List.replicate_succ, List.replicate_zero, List.cons_append, List.nil_append])
    (refine wk ?_; (repeat' first | exact True.intro | refine Lf.mk ?_ ?_); all_goals intro hP)
    (refine resX ?_; try exact True.intro)
    all_goals simp [holdsS]
theorem Rabs8_run (n : Int) (hn' : isV n) (H0 : List AObj) : ARun Tryz.prog 98 [.i n] H0 (.ret (.i (amS n)) H0) := by
  have w1 : IntKind.i64.wrap (-n) = -n := wrap_of (by omega) (by omega)
  show ARun Tryz.prog 98 [.i n] H0 (.ret (.i (if n < -n then -n else n)) H0)
  (refine ARun.intro Tryz.func98 rfl Tryz.call98 Tryz.ntmps98 Tryz.results98 ?_; simp only [List.length_cons, List.length_nil, List.length_map, Nat.reduceAdd, Nat.reduceSub, List.replicate_succ, List.replicate_zero, List.cons_append, List.nil_append])
  (have ww1 := w1; refine wk ?_; clear ww1; (repeat' first | exact True.intro | refine Lf.mk ?_ ?_); all_goals intro hP)
  (refine resX ?_; try exact True.intro)
theorem bm_am {b : Int} (h : b ≠ 0) : bmS b = amS b := by rw [bm_abs, am_abs]; omega
theorem Rprod_ok (a b : Int) (ha : isV a) (hb' : isV b) (hv : isV (prodS a b)) (H0 : List AObj) : ARun Tryz.prog 81 [.i a, .i b] H0 (.ret (.tup [.i (prodS a b), .b true]) H0) := by
  by_cases h0 : a = 0
  · subst h0
    rw [show prodS 0 b = 0 by simp [prodS]]
    (refine ARun.intro Tryz.func81 rfl Tryz.call81 Tryz.ntmps81 Tryz.results81 ?_; simp only [List.length_cons, List.length_nil, List.length_map, Nat.reduceAdd, Nat.reduceSub, List.replicate_succ, List.replicate_zero, List.cons_append, List.nil_append])
    (refine wk ?_; (repeat' first | exact True.intro | refine Lf.mk ?_ ?_); all_goals intro hP)
    (refine resX ?_; try exact True.intro)
  · have h0' : (a == 0) = false := by simpa using h0
    by_cases h1 : b = 0
    · subst h1
      rcases prod_guard ha hb' h0 with ⟨_, _, g, _⟩ | ⟨_, g⟩
      · rw [g, Int.mul_zero]
        (refine ARun.intro Tryz.func81 rfl Tryz.call81 Tryz.ntmps81 Tryz.results81 ?_; simp only [List.length_cons, List.length_nil, List.length_map, Nat.reduceAdd, Nat.reduceSub, List.replicate_succ, List.replicate_zero, List.cons_append, List.nil_append])
        (have ww1 := h0'; refine wk ?_; clear ww1; (repeat' first | exact True.intro | refine Lf.mk ?_ ?_); all_goals intro hP)
        (refine resX ?_; try exact True.intro)
      · rw [g] at hv; exfalso; omega
    · have h1' : (b == 0) = false := by simpa using h1
      have h2' : ¬ amS b = 0 := by rw [am_abs]; omega
      have cA := fun H => Rabs8_run a ha H
      have cB := fun H => Rabs8_run b hb' H
      rcases prod_guard ha hb' h0 with ⟨g1, g2, g, _⟩ | ⟨_, g⟩
      · rw [bm_am h1] at g1
        rw [g]
        have w1 : IntKind.i64.wrap (a * b) = a * b := wrap_of (by omega) (by omega)
        have hbd := tdiv_bd (a := 1000000000000) (b := amS b) ⟨by omega, by omega⟩ h2'
        have w2 : IntKind.i64.wrap ((1000000000000 : Int).tdiv (amS b)) = (1000000000000 : Int).tdiv (amS b) := wrap_of (by omega) (by omega)
        generalize amS a = ma at *
        generalize amS b = mb at *
        have g3 : ¬ (1000000000000 : Int).tdiv mb < ma := by omega
        (refine ARun.intro Tryz.func81 rfl Tryz.call81 Tryz.ntmps81 Tryz.results81 ?_; simp only [List.length_cons, List.length_nil, List.length_map, Nat.reduceAdd, Nat.reduceSub, List.replicate_succ, List.replicate_zero, List.cons_append, List.nil_append])
        (have ww1 := h0'; have ww2 := h1'; have ww3 := g3; have ww4 := w1; have ww5 := w2; have ww6 := h2'; have cc1 := fun z1 => cA z1; have cc2 := fun z1 => cB z1; refine wk ?_; clear ww1 ww2 ww3 ww4 ww5 ww6 cc1 cc2; (repeat' first | exact True.intro | refine Lf.mk ?_ ?_); all_goals intro hP)
        (refine resX ?_; try exact True.intro)
      · rw [g] at hv; exfalso; omega
theorem Rprod_bad (a b : Int) (ha : isV a) (hb' : isV b) (hv : ¬ isV (prodS a b)) (H0 : List AObj) : ARun Tryz.prog 81 [.i a, .i b] H0 (.ret (.tup [.i 0, .b false]) H0) := by
  have h0 : a ≠ 0 := by intro h; apply hv; subst h; rw [show prodS 0 b = 0 by simp [prodS]]; exact ha
  have h0' : (a == 0) = false := by simpa using h0
  rcases prod_guard ha hb' h0 with ⟨_, g2, g, _⟩ | ⟨g1, g⟩
  · rw [g] at hv; exact absurd g2 hv
  · have h1 : b ≠ 0 := by
      intro h; subst h
      have : (1000000000000 : Int).tdiv (bmS 0) = 1000000000000 := by decide
      rw [this, am_abs] at g1; omega
    have h1' : (b == 0) = false := by simpa using h1
    have h2' : ¬ amS b = 0 := by rw [am_abs]; omega
    have cA := fun H => Rabs8_run a ha H
    have cB := fun H => Rabs8_run b hb' H
    rw [bm_am h1] at g1
    have hbd := tdiv_bd (a := 1000000000000) (b := amS b) ⟨by omega, by omega⟩ h2'
    have w2 : IntKind.i64.wrap ((1000000000000 : Int).tdiv (amS b)) = (1000000000000 : Int).tdiv (amS b) := wrap_of (by omega) (by omega)
    generalize amS a = ma at *
    generalize amS b = mb at *
    (refine ARun.intro Tryz.func81 rfl Tryz.call81 Tryz.ntmps81 Tryz.results81 ?_; simp only [List.length_cons, List.length_nil, List.length_map, Nat.reduceAdd, Nat.reduceSub, List.replicate_succ, List.replicate_zero, List.cons_append, List.nil_append])
    (have ww1 := h0'; have ww2 := h1'; have ww3 := g1; have ww4 := w2; have ww5 := h2'; have cc1 := fun z1 => cA z1; have cc2 := fun z1 => cB z1; refine wk ?_; clear ww1 ww2 ww3 ww4 ww5 cc1 cc2; (repeat' first | exact True.intro | refine Lf.mk ?_ ?_); all_goals intro hP)
    (refine resX ?_; try exact True.intro)
theorem RV_ok {n : Int} (h : isV n) (H0 : List AObj) : ARun Tryz.prog 68 [.i n] H0 (.ret (.b true) H0) := by
  have := RValue_run n H0; rwa [decide_eq_true h.1, decide_eq_true h.2] at this
theorem RV_no {n : Int} (h : ¬ isV n) (H0 : List AObj) : ARun Tryz.prog 68 [.i n] H0 (.ret (.b false) H0) := by
  have := RValue_run n H0
  rwa [show (decide (-1000000000000 ≤ n) && decide (n ≤ 1000000000000)) = false by rw [← Bool.decide_and]; exact decide_eq_false h] at this
theorem Rtwo_run (op a b : Int) (hop : 4 ≤ op ∧ op ≤ 10) (ha : isV a) (hb' : isV b) (H0 : List AObj) :
    ARun Tryz.prog 66 [.i op, .i a, .i b] H0 (.ret (.tup [.i (vN (calcS op a b)), .i (eN (calcS op a b))]) H0) := by
  have hop2 : op = 4 ∨ op = 5 ∨ op = 6 ∨ op = 7 ∨ op = 8 ∨ op = 9 ∨ op = 10 := by omega
  have key : ∀ n : Int, (isV n → valS n = .ok n) ∧ (¬ isV n → valS n = .error 3) := fun n => ⟨fun h => if_pos h, fun h => if_neg h⟩
  rcases hop2 with rfl | rfl | rfl | rfl | rfl | rfl | rfl
  · rw [show calcS 4 a b = valS (a + b) by simp [calcS]]
    have w1 : IntKind.i64.wrap (a + b) = a + b := wrap_of (by omega) (by omega)
    by_cases hv : isV (a + b)
    · rw [(key _).1 hv]
      have cI := fun H => RV_ok hv H
      (refine ARun.intro Tryz.func66 rfl Tryz.call66 Tryz.ntmps66 Tryz.results66 ?_; simp only [List.length_cons, List.length_nil, List.length_map, Nat.reduceAdd, Nat.reduceSub, List.replicate_succ, List.replicate_zero, List.cons_append, List.nil_append])
      (have ww1 := w1; have cc1 := fun z1 => cI z1; refine wk ?_; clear ww1 cc1; (repeat' first | exact True.intro | refine Lf.mk ?_ ?_); all_goals intro hP)
      (refine resX ?_; try exact True.intro)
    · rw [(key _).2 hv]
      have cI := fun H => RV_no hv H
      (refine ARun.intro Tryz.func66 rfl Tryz.call66 Tryz.ntmps66 Tryz.results66 ?_; simp only [List.length_cons, List.length_nil, List.length_map, Nat.reduceAdd, Nat.reduceSub, List.replicate_succ, List.replicate_zero, List.cons_append, List.nil_append])
      (have ww1 := w1; have cc1 := fun z1 => cI z1; refine wk ?_; clear ww1 cc1; (repeat' first | exact True.intro | refine Lf.mk ?_ ?_); all_goals intro hP)
      (refine resX ?_; try exact True.intro)
  · rw [show calcS 5 a b = valS (a - b) by simp [calcS]]
    have w1 : IntKind.i64.wrap (a - b) = a - b := wrap_of (by omega) (by omega)
    by_cases hv : isV (a - b)
    · rw [(key _).1 hv]
      have cI := fun H => RV_ok hv H
      (refine ARun.intro Tryz.func66 rfl Tryz.call66 Tryz.ntmps66 Tryz.results66 ?_; simp only [List.length_cons, List.length_nil, List.length_map, Nat.reduceAdd, Nat.reduceSub, List.replicate_succ, List.replicate_zero, List.cons_append, List.nil_append])
      (have ww1 := w1; have cc1 := fun z1 => cI z1; refine wk ?_; clear ww1 cc1; (repeat' first | exact True.intro | refine Lf.mk ?_ ?_); all_goals intro hP)
      (refine resX ?_; try exact True.intro)
    · rw [(key _).2 hv]
      have cI := fun H => RV_no hv H
      (refine ARun.intro Tryz.func66 rfl Tryz.call66 Tryz.ntmps66 Tryz.results66 ?_; simp only [List.length_cons, List.length_nil, List.length_map, Nat.reduceAdd, Nat.reduceSub, List.replicate_succ, List.replicate_zero, List.cons_append, List.nil_append])
      (have ww1 := w1; have cc1 := fun z1 => cI z1; refine wk ?_; clear ww1 cc1; (repeat' first | exact True.intro | refine Lf.mk ?_ ?_); all_goals intro hP)
      (refine resX ?_; try exact True.intro)
  · rw [show calcS 6 a b = valS (prodS a b) by simp [calcS]]
    by_cases hv : isV (prodS a b)
    · rw [(key _).1 hv]
      have cI := fun H => RV_ok hv H
      have cP := fun H => Rprod_ok a b ha hb' hv H
      (refine ARun.intro Tryz.func66 rfl Tryz.call66 Tryz.ntmps66 Tryz.results66 ?_; simp only [List.length_cons, List.length_nil, List.length_map, Nat.reduceAdd, Nat.reduceSub, List.replicate_succ, List.replicate_zero, List.cons_append, List.nil_append])
      (have cc1 := fun z1 => cI z1; have cc2 := fun z1 => cP z1; refine wk ?_; clear cc1 cc2; (repeat' first | exact True.intro | refine Lf.mk ?_ ?_); all_goals intro hP)
      (refine resX ?_; try exact True.intro)
    · rw [(key _).2 hv]
      have cP := fun H => Rprod_bad a b ha hb' hv H
      (refine ARun.intro Tryz.func66 rfl Tryz.call66 Tryz.ntmps66 Tryz.results66 ?_; simp only [List.length_cons, List.length_nil, List.length_map, Nat.reduceAdd, Nat.reduceSub, List.replicate_succ, List.replicate_zero, List.cons_append, List.nil_append])
      (have cc1 := fun z1 => cP z1; refine wk ?_; clear cc1; (repeat' first | exact True.intro | refine Lf.mk ?_ ?_); all_goals intro hP)
      (refine resX ?_; try exact True.intro)
  · by_cases h0 : b = 0
    · subst h0
      rw [show calcS 7 a 0 = .error 14 by simp [calcS]]
      (refine ARun.intro Tryz.func66 rfl Tryz.call66 Tryz.ntmps66 Tryz.results66 ?_; simp only [List.length_cons, List.length_nil, List.length_map, Nat.reduceAdd, Nat.reduceSub, List.replicate_succ, List.replicate_zero, List.cons_append, List.nil_append])
      (refine wk ?_; (repeat' first | exact True.intro | refine Lf.mk ?_ ?_); all_goals intro hP)
      (refine resX ?_; try exact True.intro)
    · have h0' : (b == 0) = false := by simpa using h0
      rw [show calcS 7 a b = valS (downS a b) by simp [calcS, h0]]
      have cD := fun H => RDown_run a b ha h0 H
      by_cases hv : isV (downS a b)
      · rw [(key _).1 hv]
        have cI := fun H => RV_ok hv H
        (refine ARun.intro Tryz.func66 rfl Tryz.call66 Tryz.ntmps66 Tryz.results66 ?_; simp only [List.length_cons, List.length_nil, List.length_map, Nat.reduceAdd, Nat.reduceSub, List.replicate_succ, List.replicate_zero, List.cons_append, List.nil_append])
        (have ww1 := h0'; have cc1 := fun z1 => cI z1; have cc2 := fun z1 => cD z1; refine wk ?_; clear ww1 cc1 cc2; (repeat' first | exact True.intro | refine Lf.mk ?_ ?_); all_goals intro hP)
        (refine resX ?_; try exact True.intro)
      · rw [(key _).2 hv]
        have cI := fun H => RV_no hv H
        (refine ARun.intro Tryz.func66 rfl Tryz.call66 Tryz.ntmps66 Tryz.results66 ?_; simp only [List.length_cons, List.length_nil, List.length_map, Nat.reduceAdd, Nat.reduceSub, List.replicate_succ, List.replicate_zero, List.cons_append, List.nil_append])
        (have ww1 := h0'; have cc1 := fun z1 => cI z1; have cc2 := fun z1 => cD z1; refine wk ?_; clear ww1 cc1 cc2; (repeat' first | exact True.intro | refine Lf.mk ?_ ?_); all_goals intro hP)
        (refine resX ?_; try exact True.intro)
  · by_cases h0 : b = 0
    · subst h0
      rw [show calcS 8 a 0 = .error 14 by simp [calcS]]
      (refine ARun.intro Tryz.func66 rfl Tryz.call66 Tryz.ntmps66 Tryz.results66 ?_; simp only [List.length_cons, List.length_nil, List.length_map, Nat.reduceAdd, Nat.reduceSub, List.replicate_succ, List.replicate_zero, List.cons_append, List.nil_append])
      (refine wk ?_; (repeat' first | exact True.intro | refine Lf.mk ?_ ?_); all_goals intro hP)
      (refine resX ?_; try exact True.intro)
    · have h0' : (b == 0) = false := by simpa using h0
      rw [show calcS 8 a b = valS (-downS (-a) b) by simp [calcS, h0]]
      have cD := fun H => RDown_run a b ha h0 H
      have cE' := fun H => RDown_run (-a) b ⟨by omega, by omega⟩ h0 H
      have hbd := downS_bd (a := -a) (b := b) ⟨by omega, by omega⟩ h0
      have w1 : IntKind.i64.wrap (-a) = -a := wrap_of (by omega) (by omega)
      have w2 : IntKind.i64.wrap (-downS (-a) b) = -downS (-a) b := wrap_of (by omega) (by omega)
      by_cases hv : isV (-downS (-a) b)
      · rw [(key _).1 hv]
        have cI := fun H => RV_ok hv H
        (refine ARun.intro Tryz.func66 rfl Tryz.call66 Tryz.ntmps66 Tryz.results66 ?_; simp only [List.length_cons, List.length_nil, List.length_map, Nat.reduceAdd, Nat.reduceSub, List.replicate_succ, List.replicate_zero, List.cons_append, List.nil_append])
        (have ww1 := h0'; have ww2 := w1; have ww3 := w2; have cc1 := fun z1 => cI z1; have cc2 := fun z1 => cD z1; have cc3 := fun z1 => cE' z1; refine wk ?_; clear ww1 ww2 ww3 cc1 cc2 cc3; (repeat' first | exact True.intro | refine Lf.mk ?_ ?_); all_goals intro hP)
        (refine resX ?_; try exact True.intro)
      · rw [(key _).2 hv]
        have cI := fun H => RV_no hv H
        (refine ARun.intro Tryz.func66 rfl Tryz.call66 Tryz.ntmps66 Tryz.results66 ?_; simp only [List.length_cons, List.length_nil, List.length_map, Nat.reduceAdd, Nat.reduceSub, List.replicate_succ, List.replicate_zero, List.cons_append, List.nil_append])
        (have ww1 := h0'; have ww2 := w1; have ww3 := w2; have cc1 := fun z1 => cI z1; have cc2 := fun z1 => cD z1; have cc3 := fun z1 => cE' z1; refine wk ?_; clear ww1 ww2 ww3 cc1 cc2 cc3; (repeat' first | exact True.intro | refine Lf.mk ?_ ?_); all_goals intro hP)
        (refine resX ?_; try exact True.intro)
  · rw [show calcS 9 a b = valS (if b < a then b else a) by simp [calcS]]
    generalize hm : (if b < a then b else a) = m
    by_cases hv : isV m
    · rw [(key _).1 hv]
      have cI := fun H => RV_ok hv H
      (refine ARun.intro Tryz.func66 rfl Tryz.call66 Tryz.ntmps66 Tryz.results66 ?_; simp only [List.length_cons, List.length_nil, List.length_map, Nat.reduceAdd, Nat.reduceSub, List.replicate_succ, List.replicate_zero, List.cons_append, List.nil_append])
      (have ww1 := hm; have cc1 := fun z1 => cI z1; refine wk ?_; clear ww1 cc1; (repeat' first | exact True.intro | refine Lf.mk ?_ ?_); all_goals intro hP)
      (refine resX ?_; try exact True.intro)
    · rw [(key _).2 hv]
      have cI := fun H => RV_no hv H
      (refine ARun.intro Tryz.func66 rfl Tryz.call66 Tryz.ntmps66 Tryz.results66 ?_; simp only [List.length_cons, List.length_nil, List.length_map, Nat.reduceAdd, Nat.reduceSub, List.replicate_succ, List.replicate_zero, List.cons_append, List.nil_append])
      (have ww1 := hm; have cc1 := fun z1 => cI z1; refine wk ?_; clear ww1 cc1; (repeat' first | exact True.intro | refine Lf.mk ?_ ?_); all_goals intro hP)
      (refine resX ?_; try exact True.intro)
  · rw [show calcS 10 a b = valS (if a < b then b else a) by simp [calcS]]
    generalize hm : (if a < b then b else a) = m
    by_cases hv : isV m
    · rw [(key _).1 hv]
      have cI := fun H => RV_ok hv H
      (refine ARun.intro Tryz.func66 rfl Tryz.call66 Tryz.ntmps66 Tryz.results66 ?_; simp only [List.length_cons, List.length_nil, List.length_map, Nat.reduceAdd, Nat.reduceSub, List.replicate_succ, List.replicate_zero, List.cons_append, List.nil_append])
      (have ww1 := hm; have cc1 := fun z1 => cI z1; refine wk ?_; clear ww1 cc1; (repeat' first | exact True.intro | refine Lf.mk ?_ ?_); all_goals intro hP)
      (refine resX ?_; try exact True.intro)
    · rw [(key _).2 hv]
      have cI := fun H => RV_no hv H
      (refine ARun.intro Tryz.func66 rfl Tryz.call66 Tryz.ntmps66 Tryz.results66 ?_; simp only [List.length_cons, List.length_nil, List.length_map, Nat.reduceAdd, Nat.reduceSub, List.replicate_succ, List.replicate_zero, List.cons_append, List.nil_append])
      (have ww1 := hm; have cc1 := fun z1 => cI z1; refine wk ?_; clear ww1 cc1; (repeat' first | exact True.intro | refine Lf.mk ?_ ?_); all_goals intro hP)
      (refine resX ?_; try exact True.intro)
def leafO (st : List Int) (i0 i1 i2 i3 : Int) (e : Ex) : Option Int :=
  if e.kids.length = 0 then (if e.op = 1 then some e.n else if e.op = 2 ∧ 0 ≤ e.n ∧ e.n < st.length then some (st.getD e.n.toNat 0) else if e.op = 3 ∧ 0 ≤ e.n ∧ e.n < 4 then some (inS i0 i1 i2 i3 e.n.toNat) else none) else none
def oN (r : Option Int) : Int := match r with
  | some v => v
  | none => 0
theorem Rleaf8_run (st : List Int) (i0 i1 i2 i3 : Int) (e : Ex) (H0 : List AObj) : ARun Tryz.prog 67 [.rs 1 (rI st), .agg [.i i0, .i i1, .i i2, .i i3], .ag (cE e)] H0
    (.ret (.tup [.i (oN (leafO st i0 i1 i2 i3 e)), .b (leafO st i0 i1 i2 i3 e).isSome]) H0) := by
  unfold leafO
  have lst : (rI st).length = st.length := by simp
  by_cases hk : e.kids.length = 0
  · rw [if_pos hk]
    have hk' : ¬ (0 : Int) < (e.kids.length : Int) := by omega
    by_cases o1 : e.op = 1
    · rw [if_pos o1]
      (refine ARun.intro Tryz.func67 rfl Tryz.call67 Tryz.ntmps67 Tryz.results67 ?_; simp only [List.length_cons, List.length_nil, List.length_map, Nat.reduceAdd, Nat.reduceSub, List.replicate_succ, List.replicate_zero, List.cons_append, List.nil_append])
      (have ww1 := hk'; have ww2 := o1; refine wk ?_; clear ww1 ww2; (repeat' first | exact True.intro | refine Lf.mk ?_ ?_); all_goals intro hP)
      (refine resX ?_; try exact True.intro)
    · have o1' : (e.op == 1) = false := by simpa using o1
      rw [if_neg o1]
      by_cases o2 : e.op = 2 ∧ 0 ≤ e.n ∧ e.n < st.length
      · obtain ⟨p2, q0, q1⟩ := o2
        rw [if_pos ⟨p2, q0, q1⟩]
        have hx : (rI st)[e.n.toNat]? = some [.i (st.getD e.n.toNat 0)] := by
          have hlt2 : e.n.toNat < st.length := by omega
          rw [List.getElem?_map, List.getD_eq_getElem?_getD, List.getElem?_eq_getElem hlt2]; rfl
        generalize st.getD e.n.toNat 0 = sv at *
        (refine ARun.intro Tryz.func67 rfl Tryz.call67 Tryz.ntmps67 Tryz.results67 ?_; simp only [List.length_cons, List.length_nil, List.length_map, Nat.reduceAdd, Nat.reduceSub, List.replicate_succ, List.replicate_zero, List.cons_append, List.nil_append])
        (have ww1 := hk'; have ww2 := o1'; have ww3 := p2; have ww4 := q0; have ww5 := q1; have ww6 := hx; have ww7 := lst; refine wk ?_; clear ww1 ww2 ww3 ww4 ww5 ww6 ww7; (repeat' first | exact True.intro | refine Lf.mk ?_ ?_); all_goals intro hP)
        (refine resX ?_; try exact True.intro)
      · rw [if_neg o2]
        by_cases o3 : e.op = 3 ∧ 0 ≤ e.n ∧ e.n < 4
        · obtain ⟨p3, q0, q1⟩ := o3
          rw [if_pos ⟨p3, q0, q1⟩]
          have hnn : e.n = 0 ∨ e.n = 1 ∨ e.n = 2 ∨ e.n = 3 := by omega
          rcases hnn with hnn | hnn | hnn | hnn
          all_goals
            rw [hnn]
            (refine ARun.intro Tryz.func67 rfl Tryz.call67 Tryz.ntmps67 Tryz.results67 ?_; simp only [List.length_cons, List.length_nil, List.length_map, Nat.reduceAdd, Nat.reduceSub, List.replicate_succ, List.replicate_zero, List.cons_append, List.nil_append])
            (have ww1 := hk'; have ww2 := o1'; have ww3 := p3; have ww4 := hnn; refine wk ?_; clear ww1 ww2 ww3 ww4; (repeat' first | exact True.intro | refine Lf.mk ?_ ?_); all_goals intro hP)
            (refine resX ?_; try exact True.intro)
        · rw [if_neg o3]
          by_cases p2 : e.op = 2
          · by_cases q0 : 0 ≤ e.n
            · have q1 : ¬ e.n < st.length := fun h => o2 ⟨p2, q0, h⟩
              (refine ARun.intro Tryz.func67 rfl Tryz.call67 Tryz.ntmps67 Tryz.results67 ?_; simp only [List.length_cons, List.length_nil, List.length_map, Nat.reduceAdd, Nat.reduceSub, List.replicate_succ, List.replicate_zero, List.cons_append, List.nil_append])
              (have ww1 := hk'; have ww2 := o1'; have ww3 := p2; have ww4 := q0; have ww5 := q1; have ww6 := lst; refine wk ?_; clear ww1 ww2 ww3 ww4 ww5 ww6; (repeat' first | exact True.intro | refine Lf.mk ?_ ?_); all_goals intro hP)
              (refine resX ?_; try exact True.intro)
            · (refine ARun.intro Tryz.func67 rfl Tryz.call67 Tryz.ntmps67 Tryz.results67 ?_; simp only [List.length_cons, List.length_nil, List.length_map, Nat.reduceAdd, Nat.reduceSub, List.replicate_succ, List.replicate_zero, List.cons_append, List.nil_append])
              (have ww1 := hk'; have ww2 := o1'; have ww3 := p2; have ww4 := q0; have ww5 := lst; refine wk ?_; clear ww1 ww2 ww3 ww4 ww5; (repeat' first | exact True.intro | refine Lf.mk ?_ ?_); all_goals intro hP)
              (refine resX ?_; try exact True.intro)
          · have p2' : (e.op == 2) = false := by simpa using p2
            by_cases p3 : e.op = 3
            · by_cases q0 : 0 ≤ e.n
              · have q1 : ¬ e.n < 4 := fun h => o3 ⟨p3, q0, h⟩
                (refine ARun.intro Tryz.func67 rfl Tryz.call67 Tryz.ntmps67 Tryz.results67 ?_; simp only [List.length_cons, List.length_nil, List.length_map, Nat.reduceAdd, Nat.reduceSub, List.replicate_succ, List.replicate_zero, List.cons_append, List.nil_append])
                (have ww1 := hk'; have ww2 := o1'; have ww3 := p3; have ww4 := q0; have ww5 := q1; have ww6 := lst; refine wk ?_; clear ww1 ww2 ww3 ww4 ww5 ww6; (repeat' first | exact True.intro | refine Lf.mk ?_ ?_); all_goals intro hP)
                (refine resX ?_; try exact True.intro)
              · (refine ARun.intro Tryz.func67 rfl Tryz.call67 Tryz.ntmps67 Tryz.results67 ?_; simp only [List.length_cons, List.length_nil, List.length_map, Nat.reduceAdd, Nat.reduceSub, List.replicate_succ, List.replicate_zero, List.cons_append, List.nil_append])
                (have ww1 := hk'; have ww2 := o1'; have ww3 := p3; have ww4 := q0; have ww5 := lst; refine wk ?_; clear ww1 ww2 ww3 ww4 ww5; (repeat' first | exact True.intro | refine Lf.mk ?_ ?_); all_goals intro hP)
                (refine resX ?_; try exact True.intro)
            · have p3' : (e.op == 3) = false := by simpa using p3
              (refine ARun.intro Tryz.func67 rfl Tryz.call67 Tryz.ntmps67 Tryz.results67 ?_; simp only [List.length_cons, List.length_nil, List.length_map, Nat.reduceAdd, Nat.reduceSub, List.replicate_succ, List.replicate_zero, List.cons_append, List.nil_append])
              (have ww1 := hk'; have ww2 := o1'; have ww3 := p2'; have ww4 := p3'; have ww5 := lst; refine wk ?_; clear ww1 ww2 ww3 ww4 ww5; (repeat' first | exact True.intro | refine Lf.mk ?_ ?_); all_goals intro hP)
              (refine resX ?_; try exact True.intro)
  · rw [if_neg hk]
    have hk' : (0 : Int) < (e.kids.length : Int) := by omega
    (refine ARun.intro Tryz.func67 rfl Tryz.call67 Tryz.ntmps67 Tryz.results67 ?_; simp only [List.length_cons, List.length_nil, List.length_map, Nat.reduceAdd, Nat.reduceSub, List.replicate_succ, List.replicate_zero, List.cons_append, List.nil_append])
    (have ww1 := hk'; refine wk ?_; clear ww1; (repeat' first | exact True.intro | refine Lf.mk ?_ ?_); all_goals intro hP)
    (refine resX ?_; try exact True.intro)
theorem dr39_5_X30n : Drawn Tryz.prog 5 (regOps 5 ((Tryz.f39.body).getD .skip)) [7] [] [.win [0], .win [0], .win [0], .win [0], .win [0], .win [0], .win [0], .eff 0, .win [1], .win [1], .win [1], .win [1], .win [1]] 1 [] := ⟨rfl, by as_aux_lemma => kernel_rfl⟩
theorem dr39_12_X30n : Drawn Tryz.prog 12 (regOps 12 ((Tryz.f39.body).getD .skip)) [8] [] [.win [0], .win [0], .win [0], .win [0], .win [0], .win [0], .win [0], .win [0], .eff 0, .win [1], .win [1], .win [1], .win [1]] 1 [] := ⟨rfl, by as_aux_lemma => kernel_rfl⟩
theorem nodeV_leaf {st : List Int} {i0 i1 i2 i3 : Int} {e : Ex} {l : List Int} (hl : l.length = e.kids.length) (hop : ¬ (4 ≤ e.op ∧ e.op ≤ 10)) :
    nodeV st i0 i1 i2 i3 e.op e.n l = match leafO st i0 i1 i2 i3 e with
      | some v => valS v
      | none => .error 1 := by
  unfold nodeV leafO
  rw [if_neg hop, hl]
  by_cases h0 : e.kids.length = 0
  · rw [if_pos h0, if_pos h0]
    unfold leafV
    by_cases h1 : e.op = 1
    · rw [if_pos h1, if_pos h1]
    rw [if_neg h1, if_neg h1]
    by_cases h2 : e.op = 2 ∧ 0 ≤ e.n ∧ e.n < st.length
    · rw [if_pos h2, if_pos h2]
    rw [if_neg h2, if_neg h2]
    by_cases h3 : e.op = 3 ∧ 0 ≤ e.n ∧ e.n < 4
    · rw [if_pos h3, if_pos h3]
    rw [if_neg h3, if_neg h3]
  · rw [if_neg h0, if_neg h0]
theorem Rval_run (st : List Int) (i0 i1 i2 i3 : Int) (hst : st.length ≤ 1000000) (e : Ex) : nodes e ≤ 1000000 → ∀ (H0 : List AObj),
    ARun Tryz.prog 39 [.rs 1 (rI st), .agg [.i i0, .i i1, .i i2, .i i3], .ag (cE e)] H0 (.ret (.tup [.i (vN (valE st i0 i1 i2 i3 e)), .i (eN (valE st i0 i1 i2 i3 e))]) H0) := by
  induction e using Ex.ind with
  | h e ih =>
    intro hn H0
    rw [nodes_eq] at hn
    have hkl := len_nodesL e.kids
    have cL := fun H => Rleaf8_run st i0 i1 i2 i3 e H
    (refine ARun.intro Tryz.func39 rfl Tryz.call39 Tryz.ntmps39 Tryz.results39 ?_; simp only [List.length_cons, List.length_nil, List.length_map, Nat.reduceAdd, Nat.reduceSub, List.replicate_succ, List.replicate_zero, List.cons_append, List.nil_append])
    refine awp_len_agg 2 3 rfl rfl fun hlen => ?_
    rw [List.length_map] at hlen
    have lw : (e.kids.map encE).length = e.kids.length := List.length_map encE
    (have rr1 := dr39_5_X30n; have rr2 := dr39_12_X30n; have ww1 := lw; refine wk ?_; clear rr1 rr2 ww1; (repeat' first | exact True.intro | refine Lf.mk ?_ ?_); all_goals intro hP)
    refine awp_loop_ind (σ := Nat × List Int) (fun s => e.kids.length - s.1) (fun s => s.1 ≤ e.kids.length ∧ s.2.length = s.1 ∧ valEs st i0 i1 i2 i3 (e.kids.take s.1) = .ok s.2)
      (fun s => (.rs 1 (rI st) :: .any :: .any :: .any :: .p H0.length 0 :: .p (H0.length + 1) 0 :: .any :: .any :: .os (H0.length + 2) 0 s.2.length s.2.length :: .i s.1 :: .any :: .any :: .any :: .any :: .any :: .any :: .any :: .any :: .any :: .any :: .any :: .any :: .any :: .any :: .any :: .any :: .any :: .any :: .any :: .any :: .any :: .any :: .any :: .any :: .any :: .any :: .any :: .any :: .any :: .any :: .any :: .any :: .any :: .any :: .any :: .any :: .any :: .any :: .any :: .any :: .any :: .any :: .any :: .any :: .any :: .any :: .any :: .any :: .any :: .any :: .any :: .any :: .any :: .any :: .any :: .any :: .any :: .any :: .any :: .any :: .any :: .any :: .any :: .any :: []))
      (fun s => H0 ++ [.cells 28 [.i i0, .i i1, .i i2, .i i3], .cells 33 [.i e.op, .i e.n, .i e.unit, .rs 4 (e.kids.map encE)], .arr 3 1 (nR s.2)]) (0, []) ⟨Nat.zero_le _, rfl, rfl⟩ (Wk.ghostL 8 2 3 (sz := 1) (by omega) rfl rfl rfl (by (refine fgX ?_; try exact True.intro))) ?_
    rintro ⟨i, acc⟩ ⟨h1, h2, h4⟩
    simp only at h1 h2 h4 ⊢
    have ln := nR_len acc
    cases hr : e.kids.drop i with
    | nil =>
      have hlt := drop_nil hr
      have hik : i = e.kids.length := by have := List.drop_eq_nil_iff.1 hr; omega
      have hE : valE st i0 i1 i2 i3 e = nodeV st i0 i1 i2 i3 e.op e.n acc := by
        rw [hik, List.take_length] at h4
        rw [valE_eq, h4]
      rw [hE]
      clear hE
      have hall := valEs_isV h4
      by_cases hop : 4 ≤ e.op ∧ e.op ≤ 10
      · obtain ⟨o1, o2⟩ := hop
        by_cases hl2 : acc.length = 2
        · obtain ⟨a, b, rfl⟩ : ∃ a b, acc = [a, b] := by match acc, hl2 with | [a, b], _ => exact ⟨a, b, rfl⟩
          have ha : isV a := hall a (by simp)
          have hb' : isV b := hall b (by simp)
          have hn2 : nodeV st i0 i1 i2 i3 e.op e.n [a, b] = calcS e.op a b := by unfold nodeV; rw [if_pos ⟨o1, o2⟩]
          rw [hn2]
          have ra : (nR [a, b])[0]? = some [.i a] := rfl
          have ln2 : (nR [a, b]).length = 2 := rfl
          have rb : (nR [a, b])[1]? = some [.i b] := rfl
          have cT := fun H => Rtwo_run e.op a b ⟨o1, o2⟩ ha hb' H
          clear ih hn2 hall h4 hn hkl cL
          (have rr1 := dr39_5_X30n; have rr2 := dr39_12_X30n; have ww1 := lw; have ww2 := hlt; have ww3 := ra; have ww4 := rb; have ww5 := ln2; have ww6 := o1; have ww7 := o2; have cc1 := fun z1 => cT z1; refine wk ?_; clear rr1 rr2 ww1 ww2 ww3 ww4 ww5 ww6 ww7 cc1; (repeat' first | exact True.intro | refine Lf.mk ?_ ?_); all_goals intro hP)
          (refine resX ?_; try exact True.intro)
        · have hn2 : nodeV st i0 i1 i2 i3 e.op e.n acc = .error 1 := by
            unfold nodeV; rw [if_pos ⟨o1, o2⟩]
            match acc, hl2 with
            | [], _ => rfl
            | [_], _ => rfl
            | _ :: _ :: _ :: _, _ => rfl
          rw [hn2]
          have hne : ((acc.length : Int) != 2) = true := by simp; omega
          simp only [vN, eN]
          (have rr1 := dr39_5_X30n; have rr2 := dr39_12_X30n; have ww1 := lw; have ww2 := hlt; have ww3 := hne; have ww4 := ln; have ww5 := o1; have ww6 := o2; refine wk ?_; clear rr1 rr2 ww1 ww2 ww3 ww4 ww5 ww6; (repeat' first | exact True.intro | refine Lf.mk ?_ ?_); all_goals intro hP)
          (refine resX ?_; try exact True.intro)
      · rw [nodeV_leaf (by omega) hop]
        have o12 : ∀ {p : Prop}, (4 ≤ e.op → ¬ e.op ≤ 10 → p) → (¬ 4 ≤ e.op → p) → p := fun f g => by
          by_cases h : 4 ≤ e.op
          · exact f h (fun k => hop ⟨h, k⟩)
          · exact g h
        cases hlf : leafO st i0 i1 i2 i3 e with
        | none =>
          simp only [hlf, oN, Option.isSome] at cL
          simp only [vN, eN]
          refine o12 (fun o1 o2 => ?_) (fun o1 => ?_)
          · (have rr1 := dr39_5_X30n; have rr2 := dr39_12_X30n; have ww1 := lw; have ww2 := hlt; have ww3 := o1; have ww4 := o2; have cc1 := fun z1 => cL z1; refine wk ?_; clear rr1 rr2 ww1 ww2 ww3 ww4 cc1; (repeat' first | exact True.intro | refine Lf.mk ?_ ?_); all_goals intro hP)
            (refine resX ?_; try exact True.intro)
          · (have rr1 := dr39_5_X30n; have rr2 := dr39_12_X30n; have ww1 := lw; have ww2 := hlt; have ww3 := o1; have cc1 := fun z1 => cL z1; refine wk ?_; clear rr1 rr2 ww1 ww2 ww3 cc1; (repeat' first | exact True.intro | refine Lf.mk ?_ ?_); all_goals intro hP)
            (refine resX ?_; try exact True.intro)
        | some v =>
          simp only [hlf, oN, Option.isSome] at cL
          simp only
          by_cases hv : isV v
          · rw [show valS v = .ok v from if_pos hv]
            have cI := fun H => RV_ok hv H
            simp only [vN, eN]
            refine o12 (fun o1 o2 => ?_) (fun o1 => ?_)
            · (have rr1 := dr39_5_X30n; have rr2 := dr39_12_X30n; have ww1 := lw; have ww2 := hlt; have ww3 := o1; have ww4 := o2; have cc1 := fun z1 => cL z1; have cc2 := fun z1 => cI z1; refine wk ?_; clear rr1 rr2 ww1 ww2 ww3 ww4 cc1 cc2; (repeat' first | exact True.intro | refine Lf.mk ?_ ?_); all_goals intro hP)
              (refine resX ?_; try exact True.intro)
            · (have rr1 := dr39_5_X30n; have rr2 := dr39_12_X30n; have ww1 := lw; have ww2 := hlt; have ww3 := o1; have cc1 := fun z1 => cL z1; have cc2 := fun z1 => cI z1; refine wk ?_; clear rr1 rr2 ww1 ww2 ww3 cc1 cc2; (repeat' first | exact True.intro | refine Lf.mk ?_ ?_); all_goals intro hP)
              (refine resX ?_; try exact True.intro)
          · rw [show valS v = .error 3 from if_neg hv]
            have cI := fun H => RV_no hv H
            simp only [vN, eN]
            refine o12 (fun o1 o2 => ?_) (fun o1 => ?_)
            · (have rr1 := dr39_5_X30n; have rr2 := dr39_12_X30n; have ww1 := lw; have ww2 := hlt; have ww3 := o1; have ww4 := o2; have cc1 := fun z1 => cL z1; have cc2 := fun z1 => cI z1; refine wk ?_; clear rr1 rr2 ww1 ww2 ww3 ww4 cc1 cc2; (repeat' first | exact True.intro | refine Lf.mk ?_ ?_); all_goals intro hP)
              (refine resX ?_; try exact True.intro)
            · (have rr1 := dr39_5_X30n; have rr2 := dr39_12_X30n; have ww1 := lw; have ww2 := hlt; have ww3 := o1; have cc1 := fun z1 => cL z1; have cc2 := fun z1 => cI z1; refine wk ?_; clear rr1 rr2 ww1 ww2 ww3 cc1 cc2; (repeat' first | exact True.intro | refine Lf.mk ?_ ?_); all_goals intro hP)
              (refine resX ?_; try exact True.intro)
    | cons k rest =>
      obtain ⟨hk, hlt, hd, hm⟩ := drop_cons hr
      have hw : IntKind.i64.wrap ((i : Int) + 1) = ((i + 1 : Nat) : Int) := by rw [wrap_of (by omega) (by omega)]; omega
      have hk' : (e.kids.map encE)[i]? = some (cE k) := by rw [List.getElem?_map, hk, Option.map_some, encE_eq]
      have c := fun L => ih k hm (by have := nodes_mem hm; omega) L
      cases hv : valE st i0 i1 i2 i3 k with
      | error x =>
        have hall : valE st i0 i1 i2 i3 e = .error x := by
          rw [valE_eq]
          have : e.kids = e.kids.take i ++ k :: rest := by rw [← hr, List.take_append_drop]
          rw [this, valEs_fail h4 hv]
        rw [hall]
        have hx0 := valE_err k x hv
        have hx : (x != 0) = true := by simp; omega
        simp only [hv, vN, eN] at c ⊢
        (have rr1 := dr39_5_X30n; have rr2 := dr39_12_X30n; have ww1 := lw; have ww2 := hlt; have ww3 := hk'; have ww4 := hx; have cc1 := fun z1 => c z1; refine wk ?_; clear rr1 rr2 ww1 ww2 ww3 ww4 cc1; (repeat' first | exact True.intro | refine Lf.mk ?_ ?_); all_goals intro hP)
        (refine resX ?_; try exact True.intro)
      | ok v =>
        have hs : valEs st i0 i1 i2 i3 (e.kids.take (i + 1)) = .ok (acc ++ [v]) := by
          rw [List.take_add_one, hk]; exact valEs_snoc h4 hv
        simp only [hv, vN, eN] at c
        have p1 := nR_one acc v
        (have rr1 := dr39_5_X30n; have rr2 := dr39_12_X30n; have ww1 := lw; have ww2 := hlt; have ww3 := hk'; have ww4 := hw; have ww5 := p1; have ww6 := ln; have cc1 := fun z1 => c z1; refine wkO ?_; clear rr1 rr2 ww1 ww2 ww3 ww4 ww5 ww6 cc1; (repeat' first | exact True.intro | refine Lf.mk ?_ ?_); all_goals intro hP)
        refine ⟨(i + 1, acc ++ [v]), by simp only; omega, ⟨by simp only; omega, by simp [h2], hs⟩, ?_⟩
        refine Wk.keepE 3 1 rfl (by simp) (by intro o ho; simp only [List.mem_cons, List.not_mem_nil, or_false] at ho; rcases ho with rfl | rfl | rfl; (simp [AObj.under, AV.under]); (simp [AObj.under, AV.under]); exact under_pvRows _) ?_
        simp only [List.map_cons, List.map_nil, AV.low, List.length_append, List.length_cons, List.length_nil, Nat.lt_irrefl, if_false, Fgt, true_or, or_true, and_true, true_and, Nat.lt_add_right_iff_pos, Nat.add_lt_add_iff_left, Nat.lt_add_one, Nat.reduceLT, if_true, eq_self, Nat.zero_add]
theorem Rval_own (st : List Int) (i0 i1 i2 i3 : Int) (hst : st.length ≤ 1000000) (e : Ex) (hn : nodes e ≤ 1000000) {id n : Nat} {H : List AObj} (h : H[id]? = some (.arr 3 1 (nR st))) (hl : st.length = n) :
    ARun Tryz.prog 39 [.os id 0 n n, .agg [.i i0, .i i1, .i i2, .i i3], .ag (cE e)] H (.ret (.tup [.i (vN (valE st i0 i1 i2 i3 e)), .i (eN (valE st i0 i1 i2 i3 e))]) H) := by
  refine ARun.lend 2 (Rval_run st i0 i1 i2 i3 hst e hn []) ?_ rfl
  simp only [List.map_cons, List.map_nil]
  rw [low_row (rows := rI st) h (by simpa using hl)]
  simp only [AV.low, List.map_cons, List.map_nil]
  exact ⟨Cv.refl _, Cv.refl _, Cv.refl _, trivial⟩
/-- What the reference's run comes to. -/
def outQ (H : List AObj) (i0 i1 i2 i3 : Int) : Except Int (List Int) → AOut
  | .ok st' => .ret (.tup [.os (H.length + 1) 0 st'.length st'.length, .i 0]) (H ++ [.cells 28 [.i i0, .i i1, .i i2, .i i3], .arr 3 1 (nR st')])
  | .error x => .ret (.tup [.pv (.sc (.slice none 0 0)), .i x]) H
theorem aRows_rs (st : List Int) (H : List AObj) : aRows H 1 (.rs 1 (rI st)) = some (nR st) := rfl
theorem aRows_os {H : List AObj} {id n : Nat} {st : List Int} (h : H[id]? = some (.arr 3 1 (nR st))) (hl : st.length = n) : aRows H 1 (.os id 0 n n) = some (nR st) := by
  subst hl
  simp only [aRows, h, nR_len, and_self, if_true, List.drop_zero]
  rw [List.take_of_length_le (by rw [nR_len]; exact Nat.le_refl _)]
theorem fin_row {H0 : List AObj} (i0 i1 i2 i3 : Int) (st : List Int) (d : Nat) {v v2 : AV} (hv : v2 = v.low (H0 ++ [.cells 28 [.i i0, .i i1, .i i2, .i i3], .arr 3 1 (nR st)]) (H0.length + 2) d) :
    Fin H0 (H0 ++ [.cells 28 [.i i0, .i i1, .i i2, .i i3], .arr 3 1 (nR st)]) v (H0 ++ [.cells 28 [.i i0, .i i1, .i i2, .i i3], .arr 3 1 (nR st)]) v2 :=
  Fin.keep (L := [.cells 28 [.i i0, .i i1, .i i2, .i i3], .arr 3 1 (nR st)]) 2 d (by simp) (by intro o ho; simp only [List.take_succ_cons, List.take_zero, List.mem_cons, List.not_mem_nil, or_false] at ho; rcases ho with rfl | rfl; (simp [AObj.under, AV.under]); exact under_pvRows _) hv
theorem runStS_err {vs : List Vr} {us : List Un} {i0 i1 i2 i3 : Int} (s : St) : stS us s = 0 → ∀ st x, runStS vs i0 i1 i2 i3 s st = .error x → x = 1 ∨ x = 3 ∨ x = 14 ∨ x = 15 := by
  have hl : ∀ l : List St, (∀ k ∈ l, stS us k = 0 → ∀ st x, runStS vs i0 i1 i2 i3 k st = .error x → x = 1 ∨ x = 3 ∨ x = 14 ∨ x = 15) → stSL us l = 0 → ∀ st x, runStL vs i0 i1 i2 i3 l st = .error x → x = 1 ∨ x = 3 ∨ x = 14 ∨ x = 15 := by
    intro l
    induction l with
    | nil => intro _ _ st x h; rw [runStL_nil] at h; cases h
    | cons y ys ih =>
      intro h h2 st x hr
      obtain ⟨hy, hys⟩ := stSL_cons h2
      rw [runStL_cons] at hr
      cases hq : runStS vs i0 i1 i2 i3 y st with
      | error z => rw [hq] at hr; cases hr; exact h y (by simp) hy st _ hq
      | ok st1 => rw [hq] at hr; exact ih (fun k hk => h k (by simp [hk])) hys st1 x hr
  induction s using St.ind with
  | h s h1 h2 =>
    intro h st x hr
    rw [runStS_eq] at hr
    rcases stS_ok h with ⟨hk1, hv0, hv1, u, hu⟩ | ⟨hk2, hr1, hr2, ⟨u, hu⟩, ⟨u', hu'⟩, ht, he⟩
    · cases hva : valE st i0 i1 i2 i3 s.a with
      | error y => rw [hva] at hr; cases hr; have := valE_err s.a _ hva; omega
      | ok a =>
        rw [hva] at hr
        simp only at hr
        repeat' split at hr
        all_goals first | (cases hr; done) | (cases hr; omega) | omega
    · cases hva : valE st i0 i1 i2 i3 s.a with
      | error y => rw [hva] at hr; cases hr; have := valE_err s.a _ hva; omega
      | ok a =>
        rw [hva] at hr
        simp only at hr
        rw [if_neg (by omega)] at hr
        cases hvb : valE st i0 i1 i2 i3 s.b with
        | error y => rw [hvb] at hr; cases hr; have := valE_err s.b _ hvb; omega
        | ok b =>
          rw [hvb] at hr
          simp only at hr
          split at hr
          · exact hl _ h1 ht st x hr
          · exact hl _ h2 he st x hr
theorem runStL_err {vs : List Vr} {us : List Un} {i0 i1 i2 i3 : Int} : ∀ {l : List St}, stSL us l = 0 → ∀ {st : List Int} (x : Int), runStL vs i0 i1 i2 i3 l st = .error x → x = 1 ∨ x = 3 ∨ x = 14 ∨ x = 15
  | [], _, st, x, h => by rw [runStL_nil] at h; cases h
  | s :: l, h, st, x, hr => by
    obtain ⟨hy, hys⟩ := stSL_cons h
    rw [runStL_cons] at hr
    cases hq : runStS vs i0 i1 i2 i3 s st with
    | error z => rw [hq] at hr; cases hr; exact runStS_err s hy st _ hq
    | ok st1 => rw [hq] at hr; exact runStL_err hys x hr
theorem Rrun_run {vs : List Vr} {us : List Un} (hus : us.length = vs.length) (hvl : vs.length ≤ 1000000) (i0 i1 i2 i3 : Int) : ∀ (N : Nat) (l : List St), totL l ≤ N → stSL us l = 0 → fineL l → totL l ≤ 1000000000 → ∀ (st : List Int) (a : AV) (H0 : List AObj), st.length = vs.length → (∀ L, aRows (H0 ++ L) 1 a = some (nR st)) →
    ARun Tryz.prog 44 [.rs 5 (vs.map encV), a, .agg [.i i0, .i i1, .i i2, .i i3], .rs 13 (l.map encS)] H0 (outQ H0 i0 i1 i2 i3 (runStL vs i0 i1 i2 i3 l st)) := by
  intro N
  induction N with
  | zero =>
    intro l hN hv hfi hmb st a H0 hsl hA
    have hl0 : l = [] := List.eq_nil_of_length_eq_zero (by have := len_totL l; omega)
    subst hl0
    rw [runStL_nil]
    simp only [outQ]
    have hA2 := hA
    simp only [aRows] at hA2
    have f1 : st.length * 8 ≤ 140737488355328 := by omega
    have f2 : st.length ≤ 9223372036854775807 := by omega
    have ln := nR_len st
    (refine ARun.intro Tryz.func44 rfl Tryz.call44 Tryz.ntmps44 Tryz.results44 ?_; simp only [List.length_cons, List.length_nil, List.length_map, Nat.reduceAdd, Nat.reduceSub, List.replicate_succ, List.replicate_zero, List.cons_append, List.nil_append])
    repeat' (first | refine awp_seq ?_ | refine awp_block ?_ | refine awp_scope ?_ | ((first | refine awp_region_k fun Kn Kp hn hp => ?_ | refine oge_intro (by assumption) ?_) <;> (simp only [go_sem, Nat.reduceAdd, Nat.reduceSub, Nat.reduceMul, Nat.reduceLeDiff, Nat.reduceLT, Nat.reduceEqDiff, Int.reduceToNat, Int.reduceAdd, Int.reduceMul, Int.reduceSub, Int.reduceLT, Int.reduceLE, Int.reduceEq, Int.reduceNeg, Int.reduceBEq, Int.reduceBNe, ↓reduceIte, reduceCtorEq, hA2, f1, f2, ln, List.nil_append, Nat.zero_add] <;> try simp (disch := omega) only [wrap_of])) | (refine hn _ _ ?_; clear hn hp Kn Kp) | (refine hp _ _ _ ?_; clear hn hp Kn Kp) | (refine awp_cond rfl (fun hb => ?_) (fun hb => ?_) <;> (try simp only [decide_eq_true_eq, decide_eq_false_iff_not, Bool.not_eq_true', Bool.not_eq_false', Bool.true_eq_false, Bool.false_eq_true, beq_iff_eq, bne_iff_ne, bne_eq_false_iff_eq, beq_eq_false_iff_ne, gt_iff_lt, ge_iff_le, Int.reduceEq, Int.reduceNe, Int.reduceLT, Int.reduceLE, ne_eq, not_true_eq_false, not_false_eq_true] at hb)) | ((first | refine awg_split (fun hb => ?_) (fun hb => ?_) | refine awsg_split (fun hb => ?_) (fun hb => ?_)) <;> have hb0 := hb <;> (try simp only [decide_eq_true_eq, decide_eq_false_iff_not, Bool.not_eq_true', Bool.not_eq_false', Bool.true_eq_false, Bool.false_eq_true, beq_iff_eq, bne_iff_ne, bne_eq_false_iff_eq, beq_eq_false_iff_ne, gt_iff_lt, ge_iff_le, Int.reduceEq, Int.reduceNe, Int.reduceLT, Int.reduceLE, ne_eq, not_true_eq_false, not_false_eq_true] at hb0) <;> (try simp only [beq_true, beq_false, Bool.not_eq_true', Bool.not_eq_false'] at hb) <;> (simp only [go_sem, Nat.reduceAdd, Nat.reduceSub, Nat.reduceMul, Nat.reduceLeDiff, Nat.reduceLT, Nat.reduceEqDiff, Int.reduceToNat, Int.reduceAdd, Int.reduceMul, Int.reduceSub, Int.reduceLT, Int.reduceLE, Int.reduceEq, Int.reduceNeg, Int.reduceBEq, Int.reduceBNe, ↓reduceIte, reduceCtorEq, hA2, f1, f2, ln, List.nil_append, Nat.zero_add, hb, hb0] <;> try simp (disch := omega) only [wrap_of])) | (refine And.intro ?_ ?_) | refine awp_skip ?_ | refine awp_ret ?_ | refine awp_exit ?_ | refine awp_label ?_ | refine awloop_step ?_ | (simp only [go_sem, Nat.reduceAdd, Nat.reduceSub, Nat.reduceMul, Nat.reduceLeDiff, Nat.reduceLT, Nat.reduceEqDiff, Int.reduceToNat, Int.reduceAdd, Int.reduceMul, Int.reduceSub, Int.reduceLT, Int.reduceLE, Int.reduceEq, Int.reduceNeg, Int.reduceBEq, Int.reduceBNe, ↓reduceIte, reduceCtorEq, hA2, f1, f2, ln, List.nil_append, Nat.zero_add]) | fail)
    refine awp_loop 1 ?_
    (refine wkS ?_; (repeat' first | exact True.intro | refine Lf.mk ?_ ?_); all_goals intro hP)
    exact ⟨_, rfl, _, rfl, fin_row i0 i1 i2 i3 st 1 (by simp [AV.low])⟩
  | succ N ih =>
    intro l hN hv hfi hmb st a H0 hsl hA
    have hll : l.length ≤ 1000000000 := by have := len_totL l; omega
    have hA2 := hA
    simp only [aRows] at hA2
    have f1 : st.length * 8 ≤ 140737488355328 := by omega
    have f2 : st.length ≤ 9223372036854775807 := by omega
    have ln := nR_len st
    (refine ARun.intro Tryz.func44 rfl Tryz.call44 Tryz.ntmps44 Tryz.results44 ?_; simp only [List.length_cons, List.length_nil, List.length_map, Nat.reduceAdd, Nat.reduceSub, List.replicate_succ, List.replicate_zero, List.cons_append, List.nil_append])
    repeat' (first | refine awp_seq ?_ | refine awp_block ?_ | refine awp_scope ?_ | ((first | refine awp_region_k fun Kn Kp hn hp => ?_ | refine oge_intro (by assumption) ?_) <;> (simp only [go_sem, Nat.reduceAdd, Nat.reduceSub, Nat.reduceMul, Nat.reduceLeDiff, Nat.reduceLT, Nat.reduceEqDiff, Int.reduceToNat, Int.reduceAdd, Int.reduceMul, Int.reduceSub, Int.reduceLT, Int.reduceLE, Int.reduceEq, Int.reduceNeg, Int.reduceBEq, Int.reduceBNe, ↓reduceIte, reduceCtorEq, hA2, f1, f2, ln, List.nil_append, Nat.zero_add] <;> try simp (disch := omega) only [wrap_of])) | (refine hn _ _ ?_; clear hn hp Kn Kp) | (refine hp _ _ _ ?_; clear hn hp Kn Kp) | (refine awp_cond rfl (fun hb => ?_) (fun hb => ?_) <;> (try simp only [decide_eq_true_eq, decide_eq_false_iff_not, Bool.not_eq_true', Bool.not_eq_false', Bool.true_eq_false, Bool.false_eq_true, beq_iff_eq, bne_iff_ne, bne_eq_false_iff_eq, beq_eq_false_iff_ne, gt_iff_lt, ge_iff_le, Int.reduceEq, Int.reduceNe, Int.reduceLT, Int.reduceLE, ne_eq, not_true_eq_false, not_false_eq_true] at hb)) | ((first | refine awg_split (fun hb => ?_) (fun hb => ?_) | refine awsg_split (fun hb => ?_) (fun hb => ?_)) <;> have hb0 := hb <;> (try simp only [decide_eq_true_eq, decide_eq_false_iff_not, Bool.not_eq_true', Bool.not_eq_false', Bool.true_eq_false, Bool.false_eq_true, beq_iff_eq, bne_iff_ne, bne_eq_false_iff_eq, beq_eq_false_iff_ne, gt_iff_lt, ge_iff_le, Int.reduceEq, Int.reduceNe, Int.reduceLT, Int.reduceLE, ne_eq, not_true_eq_false, not_false_eq_true] at hb0) <;> (try simp only [beq_true, beq_false, Bool.not_eq_true', Bool.not_eq_false'] at hb) <;> (simp only [go_sem, Nat.reduceAdd, Nat.reduceSub, Nat.reduceMul, Nat.reduceLeDiff, Nat.reduceLT, Nat.reduceEqDiff, Int.reduceToNat, Int.reduceAdd, Int.reduceMul, Int.reduceSub, Int.reduceLT, Int.reduceLE, Int.reduceEq, Int.reduceNeg, Int.reduceBEq, Int.reduceBNe, ↓reduceIte, reduceCtorEq, hA2, f1, f2, ln, List.nil_append, Nat.zero_add, hb, hb0] <;> try simp (disch := omega) only [wrap_of])) | (refine And.intro ?_ ?_) | refine awp_skip ?_ | refine awp_ret ?_ | refine awp_exit ?_ | refine awp_label ?_ | refine awloop_step ?_ | (simp only [go_sem, Nat.reduceAdd, Nat.reduceSub, Nat.reduceMul, Nat.reduceLeDiff, Nat.reduceLT, Nat.reduceEqDiff, Int.reduceToNat, Int.reduceAdd, Int.reduceMul, Int.reduceSub, Int.reduceLT, Int.reduceLE, Int.reduceEq, Int.reduceNeg, Int.reduceBEq, Int.reduceBNe, ↓reduceIte, reduceCtorEq, hA2, f1, f2, ln, List.nil_append, Nat.zero_add]) | fail)
    refine awp_loop_ind (σ := Nat × List Int) (fun s => l.length - s.1) (fun s => s.1 ≤ l.length ∧ s.2.length = st.length ∧ runStL vs i0 i1 i2 i3 (l.drop s.1) s.2 = runStL vs i0 i1 i2 i3 l st)
      (fun s => (.rs 5 (vs.map encV) :: .any :: .any :: .rs 13 (l.map encS) :: .any :: .any :: .p H0.length 0 :: .any :: .any :: .any :: .os (H0.length + 1) 0 st.length st.length :: .i s.1 :: .any :: .any :: .any :: .any :: .any :: .any :: .any :: .any :: .any :: .any :: .any :: .any :: .any :: .any :: .any :: .any :: .any :: .any :: .any :: .any :: .any :: .any :: .any :: .any :: .any :: .any :: .any :: .any :: .any :: .any :: .any :: .any :: .any :: .any :: .any :: .any :: .any :: .any :: .any :: .any :: .any :: .any :: .any :: .any :: .any :: .any :: .any :: .any :: .any :: .any :: .any :: .any :: .any :: .any :: .any :: .any :: .any :: .any :: .any :: .any :: .any :: .any :: .any :: .any :: .any :: .any :: .any :: .any :: .any :: .any :: .any :: .any :: .any :: .any :: .any :: .any :: .any :: .any :: .any :: .any :: .any :: .any :: .any :: .any :: .any :: .any :: .any :: .any :: .any :: .any :: .any :: []))
      (fun s => H0 ++ [.cells 28 [.i i0, .i i1, .i i2, .i i3], .arr 3 1 (nR s.2)]) (0, st) ⟨Nat.zero_le _, rfl, rfl⟩ (by (refine fgtX ?_; try exact True.intro)) ?_
    rintro ⟨k, now⟩ ⟨k1, k2, k3⟩
    simp only at k1 k2 k3 ⊢
    have hw : IntKind.i64.wrap ((k : Int) + 1) = ((k + 1 : Nat) : Int) := by rw [wrap_of (by omega) (by omega)]; omega
    have lnow := nR_len now
    cases hd : l.drop k with
    | nil =>
      have hlt := drop_nil hd
      rw [hd, runStL_nil] at k3
      rw [← k3]
      simp only [outQ]
      rw [k2]
      (have ww1 := hlt; refine wk ?_; clear ww1; (repeat' first | exact True.intro | refine Lf.mk ?_ ?_); all_goals intro hP)
      exact ⟨_, rfl, _, rfl, fin_row i0 i1 i2 i3 now 1 (by simp only [go_sem, Nat.reduceAdd, Nat.reduceSub, Nat.reduceMul, Nat.reduceLeDiff, Nat.reduceLT, Nat.reduceEqDiff, Int.reduceToNat, Int.reduceAdd, Int.reduceMul, Int.reduceSub, Int.reduceLT, Int.reduceLE, Int.reduceEq, Int.reduceNeg, Int.reduceBEq, Int.reduceBNe, ↓reduceIte, reduceCtorEq]; simp [AV.low])⟩
    | cons s ss =>
      obtain ⟨hvk, hlt, hr, hm⟩ := drop_cons hd
      have hs := stSL_memM hv s hm
      have hfs := fineL_mem hfi hm
      rw [fine_eq] at hfs
      obtain ⟨na, nb, ft, fe⟩ := hfs
      rw [hd, runStL_cons] at k3
      have hl' : (l.map encS)[k]? = some (cS s) := by rw [List.getElem?_map, hvk]; exact congrArg some (encS_eq s)
      have cA := fun (o1 o2 : AObj) => Rval_own now i0 i1 i2 i3 (by omega) s.a (by omega) (id := H0.length + 1) (H := H0 ++ [o1, .arr 3 1 (nR now), o2]) (getOk _ _ _) k2
      have cB := fun (o1 o2 : AObj) => Rval_own now i0 i1 i2 i3 (by omega) s.b (by omega) (id := H0.length + 1) (H := H0 ++ [o1, .arr 3 1 (nR now), o2]) (getOk _ _ _) k2
      rw [runStS_eq] at k3
      cases hva : valE now i0 i1 i2 i3 s.a with
      | error x =>
        simp only [hva] at k3
        simp only [hva, vN, eN] at cA
        have hx0 := valE_err s.a x hva
        have hx : (x != 0) = true := by simp; omega
        rw [← k3]
        simp only [outQ]
        (have ww1 := hl'; have ww2 := hlt; have ww3 := hx; have cc1 := fun z1 z2 => cA z1 z2; refine wk ?_; clear ww1 ww2 ww3 cc1; (repeat' first | exact True.intro | refine Lf.mk ?_ ?_); all_goals intro hP)
        (refine resX ?_; try exact True.intro)
      | ok x =>
        simp only [hva] at k3
        simp only [hva, vN, eN] at cA
        rcases stS_ok hs with ⟨hk1, hv0, hv1, u, hu⟩ | ⟨hk2, hr1, hr2, ⟨u, hu⟩, ⟨u', hu'⟩, ht, he⟩
        · rw [if_pos hk1] at k3
          have hvlt : s.var.toNat < vs.length := by omega
          obtain ⟨v, hvx⟩ : ∃ v, vs[s.var.toNat]? = some v := ⟨_, List.getElem?_eq_getElem hvlt⟩
          have hvx' : (vs.map encV)[s.var.toNat]? = some (cV v) := by rw [List.getElem?_map, hvx]; rfl
          rw [hvx] at k3
          simp only at k3
          have q1 : s.var < (vs.length : Int) := by omega
          by_cases hin : v.low ≤ x ∧ x ≤ v.high
          · rw [if_pos hin] at k3
            simp only at k3
            have p1 : ¬ x < v.low := by omega
            have p2 : ¬ v.high < x := by omega
            have q2 : s.var < (st.length : Int) := by omega
            have hns : (nR now)[s.var.toNat]? = some [.i (now.getD s.var.toNat 0)] := by
              have h2 : s.var.toNat < now.length := by omega
              unfold nR pvRows
              rw [List.getElem?_map, List.getElem?_map, List.getD_eq_getElem?_getD, List.getElem?_eq_getElem h2]; rfl
            have lset := nR_set now s.var.toNat x
            generalize now.getD s.var.toNat 0 = old at *
            (have ww1 := hl'; have ww2 := hlt; have ww3 := hw; have ww4 := hk1; have ww5 := hvx'; have ww6 := hv0; have ww7 := q1; have ww8 := q2; have ww9 := p1; have ww10 := p2; have ww11 := hns; have ww12 := lnow; have ww13 := k2; have ww14 := lset; have cc1 := fun z1 z2 => cA z1 z2; refine wkS ?_; clear ww1 ww2 ww3 ww4 ww5 ww6 ww7 ww8 ww9 ww10 ww11 ww12 ww13 ww14 cc1; (repeat' first | exact True.intro | refine Lf.mk ?_ ?_); all_goals intro hP)
            refine ⟨(k + 1, now.set s.var.toNat x), by simp only; omega, ⟨by simp only; omega, by simp only [List.length_set]; exact k2, by simp only; rw [hr]; exact k3⟩, ?_⟩
            refine Wk.keepE 2 1 rfl (by simp) (by intro o ho; simp only [List.mem_cons, List.not_mem_nil, or_false] at ho; rcases ho with rfl | rfl; (simp [AObj.under, AV.under]); exact under_pvRows _) ?_
            simp only [List.map_cons, List.map_nil, AV.low, List.length_append, List.length_cons, List.length_nil, Nat.lt_irrefl, if_false, Fgt, true_or, or_true, and_true, true_and, Nat.lt_add_right_iff_pos, Nat.add_lt_add_iff_left, Nat.lt_add_one, Nat.reduceLT, if_true, eq_self, Nat.zero_add]
          · rw [if_neg hin] at k3
            simp only at k3
            rw [← k3]
            simp only [outQ]
            by_cases p1 : x < v.low
            · (have ww1 := hl'; have ww2 := hlt; have ww3 := hk1; have ww4 := hvx'; have ww5 := hv0; have ww6 := q1; have ww7 := p1; have cc1 := fun z1 z2 => cA z1 z2; refine wkS ?_; clear ww1 ww2 ww3 ww4 ww5 ww6 ww7 cc1; (repeat' first | exact True.intro | refine Lf.mk ?_ ?_); all_goals intro hP)
              (refine resX ?_; try exact True.intro)
            · have p2 : v.high < x := by omega
              (have ww1 := hl'; have ww2 := hlt; have ww3 := hk1; have ww4 := hvx'; have ww5 := hv0; have ww6 := q1; have ww7 := p1; have ww8 := p2; have cc1 := fun z1 z2 => cA z1 z2; refine wkS ?_; clear ww1 ww2 ww3 ww4 ww5 ww6 ww7 ww8 cc1; (repeat' first | exact True.intro | refine Lf.mk ?_ ?_); all_goals intro hP)
              (refine resX ?_; try exact True.intro)
        · have hk1 : ¬ s.kind = 1 := by omega
          have hk1' : (s.kind == 1) = false := by simpa using hk1
          rw [if_neg hk1] at k3
          cases hvb : valE now i0 i1 i2 i3 s.b with
          | error y =>
            simp only [hvb] at k3
            simp only [hvb, vN, eN] at cB
            have hx0 := valE_err s.b y hvb
            have hx : (y != 0) = true := by simp; omega
            rw [← k3]
            simp only [outQ]
            (have ww1 := hl'; have ww2 := hlt; have ww3 := hk1'; have ww4 := hx; have cc1 := fun z1 z2 => cA z1 z2; have cc2 := fun z1 z2 => cB z1 z2; refine wkS ?_; clear ww1 ww2 ww3 ww4 cc1 cc2; (repeat' first | exact True.intro | refine Lf.mk ?_ ?_); all_goals intro hP)
            (refine resX ?_; try exact True.intro)
          | ok y =>
            simp only [hvb] at k3
            simp only [hvb, vN, eN] at cB
            have hst := totL_mem hm
            rw [tot_eq] at hst
            have cH := fun H => RHolds_run x s.rel y ⟨hr1, hr2⟩ H
            obtain ⟨part, hpart, hpt, hpl, hps, hpf⟩ : ∃ part, (if holdsS x s.rel y = true then s.thn else s.els) = part ∧ totL part ≤ N ∧ totL part ≤ 1000000000 ∧ stSL us part = 0 ∧ fineL part := by
              refine ⟨_, rfl, ?_, ?_, ?_, ?_⟩ <;> split <;> first | omega | assumption
            have k4 : (match runStL vs i0 i1 i2 i3 part now with | .error x => (.error x : Except Int (List Int)) | .ok st' => runStL vs i0 i1 i2 i3 ss st') = runStL vs i0 i1 i2 i3 l st := by
              rw [← k3, ← hpart]
              by_cases hb : holdsS x s.rel y = true
              · simp only [if_pos hb]
                cases runStL vs i0 i1 i2 i3 s.thn now <;> rfl
              · simp only [if_neg hb]
                cases runStL vs i0 i1 i2 i3 s.els now <;> rfl
            clear k3
            have cT := fun (o1 o2 : AObj) => ih part hpt hps hpf hpl now (.os (H0.length + 1) 0 st.length st.length) (H0 ++ [o1, .arr 3 1 (nR now), o2]) (by omega) (fun L => aRows_os (by rw [List.append_assoc]; exact getOk _ _ _) k2)
            cases hrt : runStL vs i0 i1 i2 i3 part now with
            | error z =>
              simp only [hrt] at k4
              simp only [hrt, outQ] at cT
              have hz := runStL_err hps (us := us) _ hrt
              have hz' : (z != 0) = true := by simp; omega
              rw [← k4]
              simp only [outQ]
              cases hh : holdsS x s.rel y with
              | true =>
                rw [hh] at cH hpart
                simp only [if_true] at hpart
                subst hpart
                (have ww1 := hl'; have ww2 := hlt; have ww3 := hk1'; have ww4 := hz'; have cc1 := fun z1 z2 => cA z1 z2; have cc2 := fun z1 z2 => cB z1 z2; have cc3 := fun z1 => cH z1; have cc4 := fun z1 z2 => cT z1 z2; refine wkS ?_; clear ww1 ww2 ww3 ww4 cc1 cc2 cc3 cc4; (repeat' first | exact True.intro | refine Lf.mk ?_ ?_); all_goals intro hP)
                (refine resX ?_; try exact True.intro)
              | false =>
                rw [hh] at cH hpart
                simp only [Bool.false_eq_true, if_false] at hpart
                subst hpart
                (have ww1 := hl'; have ww2 := hlt; have ww3 := hk1'; have ww4 := hz'; have cc1 := fun z1 z2 => cA z1 z2; have cc2 := fun z1 z2 => cB z1 z2; have cc3 := fun z1 => cH z1; have cc4 := fun z1 z2 => cT z1 z2; refine wkS ?_; clear ww1 ww2 ww3 ww4 cc1 cc2 cc3 cc4; (repeat' first | exact True.intro | refine Lf.mk ?_ ?_); all_goals intro hP)
                (refine resX ?_; try exact True.intro)
            | ok st' =>
              have hl2 := runStL_len _ _ _ hrt
              have hl3 : st'.length = st.length := by omega
              simp only [hrt] at k4
              simp only [hrt, outQ, List.length_append, List.length_cons, List.length_nil, List.append_assoc, List.cons_append, List.nil_append, Nat.zero_add, Nat.reduceAdd, Nat.add_assoc, hl3] at cT
              have fin : ∀ (o : AObj) tm', FgtR (AL.perm H0.length [0, 4]) (H0.length + 2) tm' ((.rs 5 (vs.map encV) :: .any :: .any :: .rs 13 (l.map encS) :: .any :: .any :: .p H0.length 0 :: .any :: .any :: .any :: .os (H0.length + 1) 0 st.length st.length :: .i ((k + 1 : Nat) : Int) :: .any :: .any :: .any :: .any :: .any :: .any :: .any :: .any :: .any :: .any :: .any :: .any :: .any :: .any :: .any :: .any :: .any :: .any :: .any :: .any :: .any :: .any :: .any :: .any :: .any :: .any :: .any :: .any :: .any :: .any :: .any :: .any :: .any :: .any :: .any :: .any :: .any :: .any :: .any :: .any :: .any :: .any :: .any :: .any :: .any :: .any :: .any :: .any :: .any :: .any :: .any :: .any :: .any :: .any :: .any :: .any :: .any :: .any :: .any :: .any :: .any :: .any :: .any :: .any :: .any :: .any :: .any :: .any :: .any :: .any :: .any :: .any :: .any :: .any :: .any :: .any :: .any :: .any :: .any :: .any :: .any :: .any :: .any :: .any :: .any :: .any :: .any :: .any :: .any :: .any :: .any :: [])) →
                  ∃ s' : Nat × List Int, l.length - s'.1 < l.length - k ∧ (s'.1 ≤ l.length ∧ s'.2.length = st.length ∧ runStL vs i0 i1 i2 i3 (l.drop s'.1) s'.2 = runStL vs i0 i1 i2 i3 l st) ∧
                    Wk H0 tm' (H0 ++ [.cells 28 [.i i0, .i i1, .i i2, .i i3], .arr 3 1 (nR now), o, .cells 28 [.i i0, .i i1, .i i2, .i i3], .arr 3 1 (nR st')]) ((.rs 5 (vs.map encV) :: .any :: .any :: .rs 13 (l.map encS) :: .any :: .any :: .p H0.length 0 :: .any :: .any :: .any :: .os (H0.length + 1) 0 st.length st.length :: .i s'.1 :: .any :: .any :: .any :: .any :: .any :: .any :: .any :: .any :: .any :: .any :: .any :: .any :: .any :: .any :: .any :: .any :: .any :: .any :: .any :: .any :: .any :: .any :: .any :: .any :: .any :: .any :: .any :: .any :: .any :: .any :: .any :: .any :: .any :: .any :: .any :: .any :: .any :: .any :: .any :: .any :: .any :: .any :: .any :: .any :: .any :: .any :: .any :: .any :: .any :: .any :: .any :: .any :: .any :: .any :: .any :: .any :: .any :: .any :: .any :: .any :: .any :: .any :: .any :: .any :: .any :: .any :: .any :: .any :: .any :: .any :: .any :: .any :: .any :: .any :: .any :: .any :: .any :: .any :: .any :: .any :: .any :: .any :: .any :: .any :: .any :: .any :: .any :: .any :: .any :: .any :: .any :: []))
                      (H0 ++ [.cells 28 [.i i0, .i i1, .i i2, .i i3], .arr 3 1 (nR s'.2)]) := by
                intro o tm' h
                refine ⟨(k + 1, st'), by simp only; omega, ⟨by simp only; omega, hl3, by simp only; rw [hr]; exact k4⟩, ?_⟩
                refine Wk.perm0 [0, 4] (by decide) ?_ h
                refine ⟨.inr ⟨by simp [AObj.ren, AV.ren], by simp [AObj.under, AV.under]⟩, .inr ⟨?_, under_pvRows _⟩, trivial⟩
                rw [AObj.ren_under (n := 0) (fun i hi => by omega) (under_pvRows _)]; rfl
              cases hh : holdsS x s.rel y with
              | true =>
                rw [hh] at cH hpart
                simp only [if_true] at hpart
                subst hpart
                (have ww1 := hl'; have ww2 := hlt; have ww3 := hw; have ww4 := hk1'; have cc1 := fun z1 z2 => cA z1 z2; have cc2 := fun z1 z2 => cB z1 z2; have cc3 := fun z1 => cH z1; have cc4 := fun z1 z2 => cT z1 z2; refine wkS ?_; clear ww1 ww2 ww3 ww4 cc1 cc2 cc3 cc4; (repeat' first | exact True.intro | refine Lf.mk ?_ ?_); all_goals intro hP)
                refine fin _ _ ?_
                simp only [FgtR, AV.ren, AV.under, AL.perm_0, AL.perm_k, List.getD_cons_zero, List.getD_cons_succ, Nat.add_zero, true_or, or_true, and_true, true_and, Nat.add_lt_add_iff_left, Nat.reduceLT, Nat.lt_add_right_iff_pos]
              | false =>
                rw [hh] at cH hpart
                simp only [Bool.false_eq_true, if_false] at hpart
                subst hpart
                (have ww1 := hl'; have ww2 := hlt; have ww3 := hw; have ww4 := hk1'; have cc1 := fun z1 z2 => cA z1 z2; have cc2 := fun z1 z2 => cB z1 z2; have cc3 := fun z1 => cH z1; have cc4 := fun z1 z2 => cT z1 z2; refine wkS ?_; clear ww1 ww2 ww3 ww4 cc1 cc2 cc3 cc4; (repeat' first | exact True.intro | refine Lf.mk ?_ ?_); all_goals intro hP)
                refine fin _ _ ?_
                simp only [FgtR, AV.ren, AV.under, AL.perm_0, AL.perm_k, List.getD_cons_zero, List.getD_cons_succ, Nat.add_zero, true_or, or_true, and_true, true_and, Nat.add_lt_add_iff_left, Nat.reduceLT, Nat.lt_add_right_iff_pos]
theorem dr17_3_X30q : Drawn Tryz.prog 3 (regOps 3 ((Tryz.f17.body).getD .skip)) [10] [] [.win [0], .win [0], .win [0], .win [0], .win [0], .win [0], .win [0], .win [0], .win [0], .win [0], .eff 0, .win [1], .win [1], .win [1], .win [1]] 1 [] := ⟨rfl, by as_aux_lemma => kernel_rfl⟩
theorem flat8_run (e : Ex) : ∀ (d : Int) (H0 : List AObj), 0 ≤ d → d ≤ 1000000 → ARun Tryz.prog 31 [.ag (cE e), .i d] H0 (.ret (.b (flatE e d)) H0) := by
  induction e using Ex.ind with
  | h e ih =>
    intro d H0 hd0 hd1
    rw [flatE_eq]
    by_cases h0 : d = 0
    · subst h0
      (refine ARun.intro Tryz.func31 rfl Tryz.call31 Tryz.ntmps31 Tryz.results31 ?_; simp only [List.length_cons, List.length_nil, List.length_map, Nat.reduceAdd, Nat.reduceSub, List.replicate_succ, List.replicate_zero, List.cons_append, List.nil_append])
      (refine wk ?_; (repeat' first | exact True.intro | refine Lf.mk ?_ ?_); all_goals intro hP)
      (refine resX ?_; try exact True.intro)
    · rw [decide_eq_true h0, Bool.true_and]
      (refine ARun.intro Tryz.func31 rfl Tryz.call31 Tryz.ntmps31 Tryz.results31 ?_; simp only [List.length_cons, List.length_nil, List.length_map, Nat.reduceAdd, Nat.reduceSub, List.replicate_succ, List.replicate_zero, List.cons_append, List.nil_append])
      refine awp_len_agg 0 3 rfl rfl fun hlen => ?_
      rw [List.length_map] at hlen
      (refine wkO ?_; (repeat' first | exact True.intro | refine Lf.mk ?_ ?_); all_goals intro hP)
      refine awp_loop_ind (σ := Nat) (fun k => e.kids.length - k) (fun k => k ≤ e.kids.length ∧ flatEL e.kids (d - 1) = flatEL (e.kids.drop k) (d - 1))
        (fun k => (.any :: .i d :: .p H0.length 0 :: .any :: .any :: .i k :: .any :: .any :: .any :: .any :: .any :: .any :: .any :: .any :: .any :: .any :: .any :: .any :: .any :: .any :: .any :: .any :: .any :: .any :: []))
        (fun k => H0 ++ [.cells 33 [.i e.op, .i e.n, .i e.unit, .rs 4 (e.kids.map encE)]]) 0 ⟨by omega, by simp⟩ (by (refine fgtX ?_; try exact True.intro)) ?_
      rintro i ⟨h2, h4⟩
      have hw2 : IntKind.i64.wrap (d - 1) = d - 1 := by rw [wrap_of (by omega) (by omega)]
      cases hr : e.kids.drop i with
      | nil =>
        have hlt := drop_nil hr
        rw [hr, flatEL] at h4
        (have ww1 := hlt; refine wk ?_; clear ww1; (repeat' first | exact True.intro | refine Lf.mk ?_ ?_); all_goals intro hP)
        (refine resX ?_; try exact True.intro)
        rw [h4]
      | cons k rest =>
        obtain ⟨hk, hlt, hd, hm⟩ := drop_cons hr
        have hw : IntKind.i64.wrap ((i : Int) + 1) = ((i + 1 : Nat) : Int) := by rw [wrap_of (by omega) (by omega)]; omega
        have hk' : (e.kids.map encE)[i]? = some (cE k) := by rw [List.getElem?_map, hk, Option.map_some, encE_eq]
        rw [hr, flatEL] at h4
        have c := fun H0 => ih k hm (d - 1) H0 (by omega) (by omega)
        cases hf : flatE k (d - 1) with
        | true =>
          rw [hf] at c
          (have ww1 := hlt; have ww2 := hk'; have ww3 := hw; have ww4 := hw2; have cc1 := fun z1 => c z1; refine wk ?_; clear ww1 ww2 ww3 ww4 cc1; (repeat' first | exact True.intro | refine Lf.mk ?_ ?_); all_goals intro hP)
          refine ⟨i + 1, by omega, ⟨by omega, by rw [hd, h4, hf, Bool.true_and]⟩, ?_⟩
          (refine fgtX ?_; try exact True.intro)
        | false =>
          rw [hf] at c
          (have ww1 := hlt; have ww2 := hk'; have ww3 := hw; have ww4 := hw2; have cc1 := fun z1 => c z1; refine wk ?_; clear ww1 ww2 ww3 ww4 cc1; (repeat' first | exact True.intro | refine Lf.mk ?_ ?_); all_goals intro hP)
          (refine resX ?_; try exact True.intro)
          rw [h4, hf, Bool.false_and]
def few8B (st : List Int) (e : Ex) : Bool := decide (st.length ≤ 40) && (decide (size e 200 ≤ 200) && flatE e 200)
theorem RFew8_run (st : List Int) (e : Ex) (H0 : List AObj) : ARun Tryz.prog 11 [.rs 1 (rI st), .ag (cE e)] H0 (.ret (.b (few8B st e)) H0) := by
  have ls : (rI st).length = st.length := List.length_map _
  have cS := fun H => Size_run e 200 H (by omega) (by omega)
  have cF := fun H => flat8_run e 200 H (by omega) (by omega)
  unfold few8B
  by_cases h1 : st.length ≤ 40
  · have h1' : (st.length : Int) ≤ 40 := by omega
    by_cases h2 : size e 200 ≤ 200
    · rw [decide_eq_true h1, decide_eq_true h2, Bool.true_and, Bool.true_and]
      (refine ARun.intro Tryz.func11 rfl Tryz.call11 Tryz.ntmps11 Tryz.results11 ?_; simp only [List.length_cons, List.length_nil, List.length_map, Nat.reduceAdd, Nat.reduceSub, List.replicate_succ, List.replicate_zero, List.cons_append, List.nil_append])
      (have ww1 := ls; have ww2 := h1'; have ww3 := h2; have cc1 := fun z1 => cS z1; have cc2 := fun z1 => cF z1; refine wk ?_; clear ww1 ww2 ww3 cc1 cc2; (repeat' first | exact True.intro | refine Lf.mk ?_ ?_); all_goals intro hP)
      (refine resX ?_; try exact True.intro)
    · rw [decide_eq_true h1, decide_eq_false h2, Bool.true_and, Bool.false_and]
      (refine ARun.intro Tryz.func11 rfl Tryz.call11 Tryz.ntmps11 Tryz.results11 ?_; simp only [List.length_cons, List.length_nil, List.length_map, Nat.reduceAdd, Nat.reduceSub, List.replicate_succ, List.replicate_zero, List.cons_append, List.nil_append])
      (have ww1 := ls; have ww2 := h1'; have ww3 := h2; have cc1 := fun z1 => cS z1; refine wk ?_; clear ww1 ww2 ww3 cc1; (repeat' first | exact True.intro | refine Lf.mk ?_ ?_); all_goals intro hP)
      (refine resX ?_; try exact True.intro)
  · have h1' : ¬ (st.length : Int) ≤ 40 := by omega
    rw [decide_eq_false h1, Bool.false_and]
    (refine ARun.intro Tryz.func11 rfl Tryz.call11 Tryz.ntmps11 Tryz.results11 ?_; simp only [List.length_cons, List.length_nil, List.length_map, Nat.reduceAdd, Nat.reduceSub, List.replicate_succ, List.replicate_zero, List.cons_append, List.nil_append])
    (have ww1 := ls; have ww2 := h1'; refine wk ?_; clear ww1 ww2; (repeat' first | exact True.intro | refine Lf.mk ?_ ?_); all_goals intro hP)
    (refine resX ?_; try exact True.intro)
theorem REval8_run (st : List Int) (hst : st.length ≤ 1000000) (i0 i1 i2 i3 : Int) (e : Ex) (H0 : List AObj) :
    ARun Tryz.prog 15 [.rs 1 (rI st), .agg [.i i0, .i i1, .i i2, .i i3], .ag (cE e)] H0 (.ret (.tup [.i (vN (evalR st i0 i1 i2 i3 e)), .i (eN (evalR st i0 i1 i2 i3 e))]) H0) := by
  have cS := fun H => Size_run e 60 H (by omega) (by omega)
  unfold evalR
  by_cases hs : 60 < size e 60
  · rw [if_pos hs]
    (refine ARun.intro Tryz.func15 rfl Tryz.call15 Tryz.ntmps15 Tryz.results15 ?_; simp only [List.length_cons, List.length_nil, List.length_map, Nat.reduceAdd, Nat.reduceSub, List.replicate_succ, List.replicate_zero, List.cons_append, List.nil_append])
    (have ww1 := hs; have cc1 := fun z1 => cS z1; refine wk ?_; clear ww1 cc1; (repeat' first | exact True.intro | refine Lf.mk ?_ ?_); all_goals intro hP)
    (refine resX ?_; try exact True.intro)
  · rw [if_neg hs]
    have hn : nodes e ≤ 60 := by have := (size_cap e 60 (by omega)).1 (by omega); omega
    have cW := fun H => Rval_run st i0 i1 i2 i3 hst e (by omega) H
    (refine ARun.intro Tryz.func15 rfl Tryz.call15 Tryz.ntmps15 Tryz.results15 ?_; simp only [List.length_cons, List.length_nil, List.length_map, Nat.reduceAdd, Nat.reduceSub, List.replicate_succ, List.replicate_zero, List.cons_append, List.nil_append])
    (have ww1 := hs; have cc1 := fun z1 => cS z1; have cc2 := fun z1 => cW z1; refine wk ?_; clear ww1 cc1 cc2; (repeat' first | exact True.intro | refine Lf.mk ?_ ?_); all_goals intro hP)
    (refine resX ?_; try exact True.intro)
theorem PM.rstart {p : Prg} (h : PM p) (H0 : List AObj) : ARun Tryz.prog 13 [.ag (cP p)] H0 (.ret (.tup [.rs 1 (rI (runL (startR p))), .i (runE (startR p))]) H0) := by
  have cW := fun H => h.rvalid H
  have hl := h.l
  unfold startR
  cases hval : validB p with
  | false =>
    rw [hval] at cW
    simp only [Bool.false_eq_true, if_false, runL, runE]
    (refine ARun.intro Tryz.func13 rfl Tryz.call13 Tryz.ntmps13 Tryz.results13 ?_; simp only [List.length_cons, List.length_nil, List.length_map, Nat.reduceAdd, Nat.reduceSub, List.replicate_succ, List.replicate_zero, List.cons_append, List.nil_append])
    (have cc1 := fun z1 => cW z1; refine wk ?_; clear cc1; (repeat' first | exact True.intro | refine Lf.mk ?_ ?_); all_goals intro hP)
    (refine resC ?_; (repeat' (first | exact True.intro | refine Lf.mk ?_ ?_)))
    (repeat' (first | exact trivial | exact Cv.refl _ | exact Cv.nil (Nat.succ_pos _) | exact PCv.refl _ | exact PCv.nil (Nat.succ_pos _) | refine And.intro ?_ ?_ | refine Cv.agg ?_ | refine Cv.tup ?_ | refine Cv.pv (PCv.rs ?_) | refine PCv.rs ?_))
  | true =>
    rw [hval] at cW
    simp only [if_true, runL, runE]
    (refine ARun.intro Tryz.func13 rfl Tryz.call13 Tryz.ntmps13 Tryz.results13 ?_; simp only [List.length_cons, List.length_nil, List.length_map, Nat.reduceAdd, Nat.reduceSub, List.replicate_succ, List.replicate_zero, List.cons_append, List.nil_append])
    (have cc1 := fun z1 => cW z1; refine wk ?_; clear cc1; (repeat' first | exact True.intro | refine Lf.mk ?_ ?_); all_goals intro hP)
    refine awp_loop_ind (σ := Nat) (fun k => p.vars.length - k) (fun k => k ≤ p.vars.length)
      (fun k => (.any :: .p H0.length 0 :: .any :: .any :: .os (H0.length + 1) 0 k k :: .i k :: .any :: .any :: .any :: .any :: .any :: .any :: .any :: .any :: .any :: .any :: .any :: .any :: .any :: .any :: .any :: .any :: .any :: .any :: .any :: .any :: []))
      (fun k => H0 ++ [.cells 26 ((cP p).map AV.pv), .arr 3 1 (nR ((p.vars.take k).map (·.init)))]) 0 (Nat.zero_le _) (Wk.ghostL 4 1 3 (sz := 1) (by omega) rfl rfl rfl (by (refine fgX ?_; try exact True.intro))) ?_
    rintro k k1
    have hw : IntKind.i64.wrap ((k : Int) + 1) = ((k + 1 : Nat) : Int) := by rw [wrap_of (by omega) (by omega)]; omega
    have ln : (nR ((p.vars.take k).map (·.init))).length = k := by rw [nR_len, List.length_map, List.length_take]; omega
    cases hr : p.vars.drop k with
    | nil =>
      have hlt := drop_nil hr
      have hk : p.vars.length ≤ k := List.drop_eq_nil_iff.1 hr
      rw [List.take_of_length_le hk] at ln ⊢
      (have ww1 := hlt; refine wk ?_; clear ww1; (repeat' first | exact True.intro | refine Lf.mk ?_ ?_); all_goals intro hP)
      (refine resC ?_; (repeat' (first | exact True.intro | refine Lf.mk ?_ ?_)))
      rw [if_pos ln, List.take_of_length_le (by omega), nR_toPVs]
      exact Cv.refl _
    | cons v rest =>
      obtain ⟨hv, hlt, hd, hm⟩ := drop_cons hr
      have hv' : (p.vars.map encV)[k]? = some (cV v) := by rw [List.getElem?_map, hv]; rfl
      have p1 := nR_one ((p.vars.take k).map (·.init)) v.init
      (have ww1 := hlt; have ww2 := hv'; have ww3 := hw; have ww4 := p1; have ww5 := ln; refine wkO ?_; clear ww1 ww2 ww3 ww4 ww5; (repeat' first | exact True.intro | refine Lf.mk ?_ ?_); all_goals intro hP)
      refine ⟨k + 1, by omega, by omega, ?_⟩
      rw [List.take_add_one, hv, List.map_append]
      refine Wk.keepE 2 1 rfl (by simp) (by intro o ho; simp only [List.mem_cons, List.not_mem_nil, or_false] at ho; rcases ho with rfl | rfl; (simp [AObj.under, AV.under]); exact under_pvRows _) ?_
      simp only [List.map_cons, List.map_nil, AV.low, List.length_append, List.length_cons, List.length_nil, Nat.lt_irrefl, if_false, Fgt, true_or, or_true, and_true, true_and, Nat.lt_add_right_iff_pos, Nat.add_lt_add_iff_left, Nat.lt_add_one, Nat.reduceLT, if_true, eq_self, Nat.zero_add]
theorem PM.rrun {p : Prg} (h : PM p) (st : List Int) (x : Cal) (H0 : List AObj) : ARun Tryz.prog 17 [.ag (cP p), .rs 1 (rI st), agL x] H0 (.ret (.tup [.rs 1 (rI (runL (runM p st x))), .i (runE (runM p st x))]) H0) := by
  have cW := fun H => h.rvalid H
  have cS := fun H => RState8_run p.vars st (by have := h.l; omega) H
  have cC := fun H => RCall_run x H
  unfold runM
  cases hv : validB p with
  | false =>
    rw [hv] at cW
    rw [if_neg (by simp)]
    simp only [runL, runE]
    (refine ARun.intro Tryz.func17 rfl Tryz.call17 Tryz.ntmps17 Tryz.results17 ?_; simp only [List.length_cons, List.length_nil, List.length_map, Nat.reduceAdd, Nat.reduceSub, List.replicate_succ, List.replicate_zero, List.cons_append, List.nil_append])
    (have rr1 := dr17_3_X30q; have cc1 := fun z1 => cW z1; refine wk ?_; clear rr1 cc1; (repeat' first | exact True.intro | refine Lf.mk ?_ ?_); all_goals intro hP)
    (refine resC ?_; (repeat' (first | exact True.intro | refine Lf.mk ?_ ?_)))
    (repeat' (first | exact trivial | exact Cv.refl _ | exact Cv.nil (Nat.succ_pos _) | exact PCv.refl _ | exact PCv.nil (Nat.succ_pos _) | refine And.intro ?_ ?_ | refine Cv.agg ?_ | refine Cv.tup ?_ | refine Cv.pv (PCv.rs ?_) | refine PCv.rs ?_))
  | true =>
    rw [hv] at cW
    cases hs : stIn p.vars st with
    | false =>
      rw [hs] at cS
      rw [if_neg (by simp)]
      simp only [runL, runE]
      (refine ARun.intro Tryz.func17 rfl Tryz.call17 Tryz.ntmps17 Tryz.results17 ?_; simp only [List.length_cons, List.length_nil, List.length_map, Nat.reduceAdd, Nat.reduceSub, List.replicate_succ, List.replicate_zero, List.cons_append, List.nil_append])
      (have rr1 := dr17_3_X30q; have cc1 := fun z1 => cW z1; have cc2 := fun z1 => cS z1; refine wk ?_; clear rr1 cc1 cc2; (repeat' first | exact True.intro | refine Lf.mk ?_ ?_); all_goals intro hP)
      (refine resC ?_; (repeat' (first | exact True.intro | refine Lf.mk ?_ ?_)))
      (repeat' (first | exact trivial | exact Cv.refl _ | exact Cv.nil (Nat.succ_pos _) | exact PCv.refl _ | exact PCv.nil (Nat.succ_pos _) | refine And.intro ?_ ?_ | refine Cv.agg ?_ | refine Cv.tup ?_ | refine Cv.pv (PCv.rs ?_) | refine PCv.rs ?_))
    | true =>
      rw [hs] at cS
      cases hc : callOk x with
      | false =>
        rw [hc] at cC
        rw [if_neg (by simp)]
        simp only [runL, runE]
        (refine ARun.intro Tryz.func17 rfl Tryz.call17 Tryz.ntmps17 Tryz.results17 ?_; simp only [List.length_cons, List.length_nil, List.length_map, Nat.reduceAdd, Nat.reduceSub, List.replicate_succ, List.replicate_zero, List.cons_append, List.nil_append])
        (have rr1 := dr17_3_X30q; have cc1 := fun z1 => cW z1; have cc2 := fun z1 => cS z1; have cc3 := fun z1 => cC z1; refine wk ?_; clear rr1 cc1 cc2 cc3; (repeat' first | exact True.intro | refine Lf.mk ?_ ?_); all_goals intro hP)
        (refine resC ?_; (repeat' (first | exact True.intro | refine Lf.mk ?_ ?_)))
        (repeat' (first | exact trivial | exact Cv.refl _ | exact Cv.nil (Nat.succ_pos _) | exact PCv.refl _ | exact PCv.nil (Nat.succ_pos _) | refine And.intro ?_ ?_ | refine Cv.agg ?_ | refine Cv.tup ?_ | refine Cv.pv (PCv.rs ?_) | refine PCv.rs ?_))
      | true =>
        rw [hc] at cC
        rw [if_pos ⟨rfl, rfl, rfl⟩]
        obtain ⟨us, V⟩ := validB_val hv
        obtain ⟨w1, w2, w3⟩ := val_hand V x.ev.toNat
        have hok := okP_of h.w
        have hfi := hand_fine hok x.ev.toNat
        have hT : totL p.on0 ≤ 1000000000 ∧ totL p.on1 ≤ 1000000000 ∧ totL p.on2 ≤ 1000000000 ∧ totL p.on3 ≤ 1000000000 ∧ totL p.on4 ≤ 1000000000 := by
          have := h.w
          have := totL_le p.on0
          have := totL_le p.on1
          have := totL_le p.on2
          have := totL_le p.on3
          have := totL_le p.on4
          omega
        have htl : totL (handP p x.ev.toNat) ≤ 1000000000 := hand_tot p x.ev.toNat hT
        have cR := fun (a b : AObj) => Rrun_run (us := us) V.len h.l x.i0 x.i1 x.i2 x.i3 _ (handP p x.ev.toNat) (Nat.le_refl _) w1 hfi htl st (.rs 1 (rI st)) (H0 ++ [a, b]) (stIn_len hs) (fun L => aRows_rs st _)
        have hev : (x.ev = 0 ∧ handP p x.ev.toNat = p.on0) ∨ (x.ev = 1 ∧ handP p x.ev.toNat = p.on1) ∨ (x.ev = 2 ∧ handP p x.ev.toNat = p.on2) ∨ (x.ev = 3 ∧ handP p x.ev.toNat = p.on3) ∨ (x.ev = 4 ∧ handP p x.ev.toNat = p.on4) := by
          have := call_ev hc
          have h5 : x.ev = 0 ∨ x.ev = 1 ∨ x.ev = 2 ∨ x.ev = 3 ∨ x.ev = 4 := by omega
          rcases h5 with h | h | h | h | h <;> rw [h] <;> simp [handP]
        cases hq : runStL p.vars x.i0 x.i1 x.i2 x.i3 (handP p x.ev.toNat) st with
        | ok st' =>
          have q3 := nR_len st'
          simp only [hq, outQ, List.length_append, List.length_cons, List.length_nil, List.append_assoc, List.cons_append, List.nil_append, Nat.zero_add, Nat.reduceAdd, Nat.add_assoc] at cR
          simp only [runL, runE]
          rcases hev with ⟨e1, e2⟩ | ⟨e1, e2⟩ | ⟨e1, e2⟩ | ⟨e1, e2⟩ | ⟨e1, e2⟩
          all_goals
            rw [e2] at cR
            simp only [agL, e1] at cC
            clear hT htl hok hfi hq V w1 w2 w3
            (refine ARun.intro Tryz.func17 rfl Tryz.call17 Tryz.ntmps17 Tryz.results17 ?_; simp only [List.length_cons, List.length_nil, List.length_map, Nat.reduceAdd, Nat.reduceSub, List.replicate_succ, List.replicate_zero, List.cons_append, List.nil_append])
            (have rr1 := dr17_3_X30q; have ww1 := e1; have cc1 := fun z1 => cW z1; have cc2 := fun z1 => cS z1; have cc3 := fun z1 => cC z1; have cc4 := fun z1 z2 => cR z1 z2; refine wkS ?_; clear rr1 ww1 cc1 cc2 cc3 cc4; (repeat' first | exact True.intro | refine Lf.mk ?_ ?_); all_goals intro hP)
            (refine resC ?_; (repeat' (first | exact True.intro | refine Lf.mk ?_ ?_)))
            rw [if_pos q3, List.take_of_length_le (by omega), nR_toPVs]
            exact Cv.refl _
        | error z =>
          simp only [hq, outQ] at cR
          simp only [runL, runE]
          rcases hev with ⟨e1, e2⟩ | ⟨e1, e2⟩ | ⟨e1, e2⟩ | ⟨e1, e2⟩ | ⟨e1, e2⟩
          all_goals
            rw [e2] at cR
            simp only [agL, e1] at cC
            clear hT htl hok hfi hq V w1 w2 w3
            (refine ARun.intro Tryz.func17 rfl Tryz.call17 Tryz.ntmps17 Tryz.results17 ?_; simp only [List.length_cons, List.length_nil, List.length_map, Nat.reduceAdd, Nat.reduceSub, List.replicate_succ, List.replicate_zero, List.cons_append, List.nil_append])
            (have rr1 := dr17_3_X30q; have ww1 := e1; have cc1 := fun z1 => cW z1; have cc2 := fun z1 => cS z1; have cc3 := fun z1 => cC z1; have cc4 := fun z1 z2 => cR z1 z2; refine wkS ?_; clear rr1 ww1 cc1 cc2 cc3 cc4; (repeat' first | exact True.intro | refine Lf.mk ?_ ?_); all_goals intro hP)
            (refine resC ?_; (repeat' (first | exact True.intro | refine Lf.mk ?_ ?_)))
            (repeat' (first | exact trivial | exact Cv.refl _ | exact Cv.nil (Nat.succ_pos _) | exact PCv.refl _ | exact PCv.nil (Nat.succ_pos _) | refine And.intro ?_ ?_ | refine Cv.agg ?_ | refine Cv.tup ?_ | refine Cv.pv (PCv.rs ?_) | refine PCv.rs ?_))
theorem few8_all {st : List Int} {e : Ex} (h : few8B st e = true) : st.length ≤ 40 := by
  simp only [few8B, Bool.and_eq_true, decide_eq_true_eq] at h
  exact h.1
theorem startR_len (p : Prg) : (runL (startR p)).length ≤ p.vars.length := by
  unfold startR; split <;> simp [runL]
theorem MeaningMR_run (p : Prg) (st : List Int) (x : Cal) (e : Ex) (hp : PF p) (H0 : List AObj) :
    ARun Tryz.prog 3 [.ag (cP p), .rs 1 (rI st), agL x, .ag (cE e)] H0 (.ret (.b true) H0) := by
  have hh := fun H => head8_run H
  have hf := fun H => hp.few H
  cases hfew : fewB5 p with
  | false =>
    rw [hfew] at hf
    (refine ARun.intro Tryz.func3 rfl Tryz.call3 Tryz.ntmps3 Tryz.results3 ?_; simp only [List.length_cons, List.length_nil, List.length_map, Nat.reduceAdd, Nat.reduceSub, List.replicate_succ, List.replicate_zero, List.cons_append, List.nil_append])
    (have cc1 := fun z1 => hh z1; have cc2 := fun z1 => hf z1; refine wk ?_; clear cc1 cc2; (repeat' first | exact True.intro | refine Lf.mk ?_ ?_); all_goals intro hP)
    (refine resX ?_; try exact True.intro)
  | true =>
    rw [hfew] at hf
    have h8 := fun H => RFew8_run st e H
    cases hf8 : few8B st e with
    | false =>
      rw [hf8] at h8
      (refine ARun.intro Tryz.func3 rfl Tryz.call3 Tryz.ntmps3 Tryz.results3 ?_; simp only [List.length_cons, List.length_nil, List.length_map, Nat.reduceAdd, Nat.reduceSub, List.replicate_succ, List.replicate_zero, List.cons_append, List.nil_append])
      (have cc1 := fun z1 => hh z1; have cc2 := fun z1 => hf z1; have cc3 := fun z1 => h8 z1; refine wk ?_; clear cc1 cc2 cc3; (repeat' first | exact True.intro | refine Lf.mk ?_ ?_); all_goals intro hP)
      (refine resX ?_; try exact True.intro)
    | true =>
      rw [hf8] at h8
      have hst := few8_all hf8
      have hpl := (few5_all hfew).2.1
      have pm := hp.pm hfew
      have c1 := fun H => pm.mstart H
      have c2 := fun H => pm.rstart H
      have c3 := fun H => MEval_run st (by omega) x.i0 x.i1 x.i2 x.i3 e H
      have c4 := fun H => REval8_run st (by omega) x.i0 x.i1 x.i2 x.i3 e H
      have c5 := fun H => pm.mrun st x H
      have c6 := fun H => pm.rrun st x H
      have l1 := startR_len p
      have l2 := runM_len p st x
      have k1 := fun H => Ints_run (runL (startR p)) (runL (startR p)) (by omega) H
      have k2 := fun H => Ints_run (runL (runM p st x)) (runL (runM p st x)) (by omega) H
      simp only [beq_self_eq_true] at k1 k2
      generalize runL (startR p) = A at *
      generalize runE (startR p) = B at *
      generalize runL (runM p st x) = C at *
      generalize runE (runM p st x) = D at *
      generalize vN (evalR st x.i0 x.i1 x.i2 x.i3 e) = E at *
      generalize eN (evalR st x.i0 x.i1 x.i2 x.i3 e) = F at *
      (refine ARun.intro Tryz.func3 rfl Tryz.call3 Tryz.ntmps3 Tryz.results3 ?_; simp only [List.length_cons, List.length_nil, List.length_map, Nat.reduceAdd, Nat.reduceSub, List.replicate_succ, List.replicate_zero, List.cons_append, List.nil_append])
      (have cc1 := fun z1 => hh z1; have cc2 := fun z1 => hf z1; have cc3 := fun z1 => h8 z1; have cc4 := fun z1 => c1 z1; have cc5 := fun z1 => c2 z1; have cc6 := fun z1 => c3 z1; have cc7 := fun z1 => c4 z1; have cc8 := fun z1 => c5 z1; have cc9 := fun z1 => c6 z1; have cc10 := fun z1 => k1 z1; have cc11 := fun z1 => k2 z1; refine wk ?_; clear cc1 cc2 cc3 cc4 cc5 cc6 cc7 cc8 cc9 cc10 cc11; (repeat' first | exact True.intro | refine Lf.mk ?_ ?_); all_goals intro hP)
      (refine resX ?_; try exact True.intro)
end Go.Proofs.YtpfjlifneibhfaaGreat.Y
