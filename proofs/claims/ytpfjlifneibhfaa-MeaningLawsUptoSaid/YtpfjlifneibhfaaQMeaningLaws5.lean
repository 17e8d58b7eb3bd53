/- Part 5 of the proofs of seat Ytpfjlifneibhfaa: what the texts behind it lean on (abstract memory, walks of functions, plain laws). -/
import Derived.Test.YtpfjlifneibhfaaB4
set_option linter.unusedSectionVars false
set_option linter.unusedSimpArgs false
set_option linter.unusedVariables false
set_option maxHeartbeats 100000000
set_option maxRecDepth 100000
namespace Go.Proofs.Ytpfjlifneibhfaa.Y
open Go.Proofs.Ytpfjlifneibhfaa.AL Go.Proofs Go
attribute [local irreducible] AWP AWL AWG AWR AWE AWX AWO AWSeq AWSG AWSR AWSO AWSE AWSF GoodP OGW OGR OGE OGX PGW PGR PGE Wk AWLoop AWPD AWLD
theorem MeaningLaws_run (a b : Int) (hwa : -9223372036854775808 ≤ a ∧ a ≤ 9223372036854775807) (hwb : -9223372036854775808 ≤ b ∧ b ≤ 9223372036854775807) (H0 : List AObj) :
    ARun Try.prog 4 [.i a, .i b] H0 (.ret (.b true) H0) := by
  have hh := fun H => head8_run H
  have c4 := fun H => value8_run 4 a b (by omega) H
  have d4 := fun H => value8_run 4 b a (by omega) H
  have c6 := fun H => value8_run 6 a b (by omega) H
  have d6 := fun H => value8_run 6 b a (by omega) H
  have c9 := fun H => value8_run 9 a b (by omega) H
  have d9 := fun H => value8_run 9 b a (by omega) H
  have cx := fun H => value8_run 10 a b (by omega) H
  have dx := fun H => value8_run 10 b a (by omega) H
  have c5 := fun H => value8_run 5 a b (by omega) H
  rw [valueR_comm 4 b a (by omega)] at d4
  rw [valueR_comm 6 b a (by omega)] at d6
  rw [valueR_comm 9 b a (by omega)] at d9
  rw [valueR_comm 10 b a (by omega)] at dx
  generalize vN (valueR 6 a b) = x6 at *
  generalize eN (valueR 6 a b) = y6 at *
  by_cases hv : isV a ∧ isV b
  · obtain ⟨ha, hb⟩ := hv
    obtain ⟨m, n, r9, rx, hmn, hle, hm, hn⟩ : ∃ m n, valueR 9 a b = .ok m ∧ valueR 10 a b = .ok n ∧ m + n = a + b ∧ m ≤ n ∧ isV m ∧ isV n := by
      have e9 : valueR 9 a b = valS (if b < a then b else a) := by unfold valueR; rw [if_pos ⟨ha, hb⟩]; simp [calcS]
      have ex : valueR 10 a b = valS (if a < b then b else a) := by unfold valueR; rw [if_pos ⟨ha, hb⟩]; simp [calcS]
      have h1 : isV (if b < a then b else a) := by split <;> assumption
      have h2 : isV (if a < b then b else a) := by split <;> assumption
      refine ⟨_, _, by rw [e9]; exact if_pos h1, by rw [ex]; exact if_pos h2, ?_, ?_, h1, h2⟩ <;> split <;> split <;> omega
    have r4 : valueR 4 a b = valS (a + b) := by unfold valueR; rw [if_pos ⟨ha, hb⟩]; simp [calcS]
    have r5 : valueR 5 a b = valS (a - b) := by unfold valueR; rw [if_pos ⟨ha, hb⟩]; simp [calcS]
    rw [r9] at c9 d9
    rw [rx] at cx dx
    rw [r4] at c4 d4
    rw [r5] at c5
    simp only [vN, eN] at c9 d9 cx dx
    by_cases hs : isV (a + b)
    · rw [show valS (a + b) = .ok (a + b) from if_pos hs] at c4 d4
      simp only [vN, eN] at c4 d4
      by_cases hd : isV (a - b)
      · rw [show valS (a - b) = .ok (a - b) from if_pos hd] at c5
        simp only [vN, eN] at c5
        (refine ARun.intro Try.func4 rfl Try.call4 Try.ntmps4 Try.results4 ?_; simp only [List.length_cons, List.length_nil, List.length_map, Nat.reduceAdd, Nat.reduceSub, List.replicate_succ, List.replicate_zero, List.cons_append, List.nil_append])
        (have cc1 := fun z1 => hh z1; refine wkS ?_; clear cc1; (repeat' first | exact True.intro | refine Lf.mk ?_ ?_); all_goals intro hP)
        refine awp_loop 5 ?_
        (have cc1 := fun z1 => c4 z1; have cc2 := fun z1 => d4 z1; have cc3 := fun z1 => c6 z1; have cc4 := fun z1 => d6 z1; have cc5 := fun z1 => c9 z1; have cc6 := fun z1 => d9 z1; have cc7 := fun z1 => cx z1; have cc8 := fun z1 => dx z1; have cc9 := fun z1 => c5 z1; refine wkO ?_; clear cc1 cc2 cc3 cc4 cc5 cc6 cc7 cc8 cc9; (repeat' first | exact True.intro | refine Lf.mk ?_ ?_); all_goals intro hP)
        all_goals first
          | (exfalso; omega)
          | ((refine resX ?_; try exact True.intro))
      · rw [show valS (a - b) = .error 3 from if_neg hd] at c5
        simp only [vN, eN] at c5
        (refine ARun.intro Try.func4 rfl Try.call4 Try.ntmps4 Try.results4 ?_; simp only [List.length_cons, List.length_nil, List.length_map, Nat.reduceAdd, Nat.reduceSub, List.replicate_succ, List.replicate_zero, List.cons_append, List.nil_append])
        (have cc1 := fun z1 => hh z1; refine wkS ?_; clear cc1; (repeat' first | exact True.intro | refine Lf.mk ?_ ?_); all_goals intro hP)
        refine awp_loop 5 ?_
        (have cc1 := fun z1 => c4 z1; have cc2 := fun z1 => d4 z1; have cc3 := fun z1 => c6 z1; have cc4 := fun z1 => d6 z1; have cc5 := fun z1 => c9 z1; have cc6 := fun z1 => d9 z1; have cc7 := fun z1 => cx z1; have cc8 := fun z1 => dx z1; have cc9 := fun z1 => c5 z1; refine wkO ?_; clear cc1 cc2 cc3 cc4 cc5 cc6 cc7 cc8 cc9; (repeat' first | exact True.intro | refine Lf.mk ?_ ?_); all_goals intro hP)
        all_goals first
          | (exfalso; omega)
          | ((refine resX ?_; try exact True.intro))
    · rw [show valS (a + b) = .error 3 from if_neg hs] at c4 d4
      simp only [vN, eN] at c4 d4
      by_cases hd : isV (a - b)
      · rw [show valS (a - b) = .ok (a - b) from if_pos hd] at c5
        simp only [vN, eN] at c5
        (refine ARun.intro Try.func4 rfl Try.call4 Try.ntmps4 Try.results4 ?_; simp only [List.length_cons, List.length_nil, List.length_map, Nat.reduceAdd, Nat.reduceSub, List.replicate_succ, List.replicate_zero, List.cons_append, List.nil_append])
        (have cc1 := fun z1 => hh z1; refine wkS ?_; clear cc1; (repeat' first | exact True.intro | refine Lf.mk ?_ ?_); all_goals intro hP)
        refine awp_loop 5 ?_
        (have cc1 := fun z1 => c4 z1; have cc2 := fun z1 => d4 z1; have cc3 := fun z1 => c6 z1; have cc4 := fun z1 => d6 z1; have cc5 := fun z1 => c9 z1; have cc6 := fun z1 => d9 z1; have cc7 := fun z1 => cx z1; have cc8 := fun z1 => dx z1; have cc9 := fun z1 => c5 z1; refine wkO ?_; clear cc1 cc2 cc3 cc4 cc5 cc6 cc7 cc8 cc9; (repeat' first | exact True.intro | refine Lf.mk ?_ ?_); all_goals intro hP)
        all_goals first
          | (exfalso; omega)
          | ((refine resX ?_; try exact True.intro))
      · exfalso; omega
  · have r9 : valueR 9 a b = .error 3 := by unfold valueR; rw [if_neg hv]
    rw [r9] at c9 d9
    simp only [vN, eN] at c9 d9
    generalize vN (valueR 4 a b) = x4 at *
    generalize eN (valueR 4 a b) = y4 at *
    generalize vN (valueR 10 a b) = x10 at *
    generalize eN (valueR 10 a b) = y10 at *
    have hc : a < -1000000000000 ∨ (-1000000000000 ≤ a ∧ 1000000000000 < a) ∨ (-1000000000000 ≤ a ∧ a ≤ 1000000000000 ∧ b < -1000000000000) ∨ (-1000000000000 ≤ a ∧ a ≤ 1000000000000 ∧ -1000000000000 ≤ b ∧ 1000000000000 < b) := by omega
    rcases hc with p1 | ⟨p1, p2⟩ | ⟨p1, p2, p3⟩ | ⟨p1, p2, p3, p4⟩
    all_goals
      (refine ARun.intro Try.func4 rfl Try.call4 Try.ntmps4 Try.results4 ?_; simp only [List.length_cons, List.length_nil, List.length_map, Nat.reduceAdd, Nat.reduceSub, List.replicate_succ, List.replicate_zero, List.cons_append, List.nil_append])
      (have cc1 := fun z1 => hh z1; refine wkS ?_; clear cc1; (repeat' first | exact True.intro | refine Lf.mk ?_ ?_); all_goals intro hP)
      refine awp_loop 5 ?_
      (have cc1 := fun z1 => c4 z1; have cc2 := fun z1 => d4 z1; have cc3 := fun z1 => c6 z1; have cc4 := fun z1 => d6 z1; have cc5 := fun z1 => c9 z1; have cc6 := fun z1 => d9 z1; have cc7 := fun z1 => cx z1; have cc8 := fun z1 => dx z1; refine wkO ?_; clear cc1 cc2 cc3 cc4 cc5 cc6 cc7 cc8; (repeat' first | exact True.intro | refine Lf.mk ?_ ?_); all_goals intro hP)
      all_goals first
        | (exfalso; omega)
        | ((refine resX ?_; try exact True.intro))
end Go.Proofs.Ytpfjlifneibhfaa.Y
