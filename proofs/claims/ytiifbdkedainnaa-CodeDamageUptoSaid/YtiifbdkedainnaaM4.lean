/- Part 4 of the proofs of seat Ytiifbdkedainnaa: what the texts behind it lean on (abstract memory, walks of functions, plain laws). -/
import Derived.Test.YtiifbdkedainnaaM3

set_option maxHeartbeats 8000000
set_option maxRecDepth 100000
set_option linter.unusedVariables false
set_option linter.unusedSimpArgs false
set_option linter.unusedSectionVars false
namespace Go.Proofs.Ytiifbdkedainnaa.Y
open Go.Proofs.Ytiifbdkedainnaa.AL Go.Proofs Go
attribute [local irreducible] AWP AWL AWG AWR AWE AWX AWO AWSeq AWSG AWSR AWSO AWSE AWSF GoodP OGW OGR OGE OGX PGW PGR PGE Wk AWLoop AWPD AWLD

abbrev rStr (l : List ByteArray) : List (List PV) := l.map fun w => [PV.sc (.string w)]
abbrev aStr (s : ByteArray) : AV := .pv (.sc (.string s))
theorem In_run (l : List ByteArray) (s : ByteArray) (hl : l.length ≤ 2000000) (H0 : List AObj) :
    ARun Try.prog 52 [.rs 1 (rStr l), aStr s] H0 (.ret (.i (placeS l s 0)) H0) := by
  (refine ARun.intro Try.func52 rfl Try.call52 Try.ntmps52 Try.results52 ?_; simp only [List.length_cons, List.length_nil, List.length_map, Nat.reduceAdd, Nat.reduceSub, List.replicate_succ, List.replicate_zero, List.cons_append, List.nil_append])
  (refine wkO ?_; (repeat' first | exact True.intro | refine Lf.mk ?_ ?_); all_goals intro hP)
  refine awp_loop_ind (σ := Nat) (fun k => l.length - k) (fun k => k ≤ l.length ∧ placeS l s 0 = placeS (l.drop k) s k)
    (fun k => (.rs 1 (rStr l) :: aStr s :: .any :: .any :: .any :: .i k :: .any :: .any :: .any :: .any :: .any :: .any :: .any :: .any :: .any :: .any :: .any :: .any :: .any :: [])) (fun k => H0) 0 ⟨Nat.zero_le _, by simp⟩ (by (refine fgtX ?_; try exact True.intro)) ?_
  rintro k ⟨k1, k2⟩
  have hw : IntKind.i64.wrap ((k : Int) + 1) = ((k + 1 : Nat) : Int) := by rw [wrap_of (by omega) (by omega)]; omega
  cases hd : l.drop k with
  | nil =>
    have hk : l.length ≤ k := List.drop_eq_nil_iff.1 hd
    rw [hd] at k2
    (refine wkO ?_; (repeat' first | exact True.intro | refine Lf.mk ?_ ?_); all_goals intro hP)
    (refine resX ?_; try exact True.intro)
    rw [k2]; rfl
  | cons w r =>
    have hk : k < l.length := by have := congrArg List.length hd; simp at this; omega
    rw [hd] at k2
    have hwk : l[k]? = some w := by
      have := List.getElem?_drop (xs := l) (i := k) (j := 0)
      rw [hd] at this; simpa using this.symm
    have hr : l.drop (k + 1) = r := by rw [← List.drop_drop, hd]; rfl
    have hl' : (rStr l)[k]? = some [PV.sc (.string w)] := by rw [List.getElem?_map, hwk]; rfl
    cases he : (w.toList == s.toList) with
    | true =>
      (have ww1 := hl'; have ww2 := hw; have ww3 := he; refine wkO ?_; clear ww1 ww2 ww3; (repeat' first | exact True.intro | refine Lf.mk ?_ ?_); all_goals intro hP)
      (refine resX ?_; try exact True.intro)
      rw [k2, placeS, if_pos (by exact he)]
    | false =>
      (have ww1 := hl'; have ww2 := hw; have ww3 := he; refine wkO ?_; clear ww1 ww2 ww3; (repeat' first | exact True.intro | refine Lf.mk ?_ ?_); all_goals intro hP)
      refine ⟨k + 1, by omega, ⟨by omega, ?_⟩, by (refine fgtX ?_; try exact True.intro)⟩
      rw [k2, hr, placeS, if_neg (by unfold eqB; rw [he]; simp)]
      rfl
theorem Units_run (H0 : List AObj) : ARun Try.prog 53 [] H0 (.ret (.rs 1 (rStr wUnits)) H0) := by
  (refine ARun.intro Try.func53 rfl Try.call53 Try.ntmps53 Try.results53 ?_; simp only [List.length_cons, List.length_nil, List.length_map, Nat.reduceAdd, Nat.reduceSub, List.replicate_succ, List.replicate_zero, List.cons_append, List.nil_append])
  (refine wk ?_; (repeat' first | exact True.intro | refine Lf.mk ?_ ?_); all_goals intro hP)
  (refine resC ?_; (repeat' (first | exact True.intro | refine Lf.mk ?_ ?_)))
  simp only [Nat.le_refl, if_true]
  exact Cv.refl _
theorem Events_run (H0 : List AObj) : ARun Try.prog 54 [] H0 (.ret (.rs 1 (rStr wEvents)) H0) := by
  (refine ARun.intro Try.func54 rfl Try.call54 Try.ntmps54 Try.results54 ?_; simp only [List.length_cons, List.length_nil, List.length_map, Nat.reduceAdd, Nat.reduceSub, List.replicate_succ, List.replicate_zero, List.cons_append, List.nil_append])
  (refine wk ?_; (repeat' first | exact True.intro | refine Lf.mk ?_ ?_); all_goals intro hP)
  (refine resC ?_; (repeat' (first | exact True.intro | refine Lf.mk ?_ ?_)))
  simp only [Nat.le_refl, if_true]
  exact Cv.refl _
theorem Policies_run (H0 : List AObj) : ARun Try.prog 55 [] H0 (.ret (.rs 1 (rStr wPolicies)) H0) := by
  (refine ARun.intro Try.func55 rfl Try.call55 Try.ntmps55 Try.results55 ?_; simp only [List.length_cons, List.length_nil, List.length_map, Nat.reduceAdd, Nat.reduceSub, List.replicate_succ, List.replicate_zero, List.cons_append, List.nil_append])
  (refine wk ?_; (repeat' first | exact True.intro | refine Lf.mk ?_ ?_); all_goals intro hP)
  (refine resC ?_; (repeat' (first | exact True.intro | refine Lf.mk ?_ ?_)))
  simp only [Nat.le_refl, if_true]
  exact Cv.refl _
theorem Inputs_run (H0 : List AObj) : ARun Try.prog 56 [] H0 (.ret (.rs 1 (rStr wInputs)) H0) := by
  (refine ARun.intro Try.func56 rfl Try.call56 Try.ntmps56 Try.results56 ?_; simp only [List.length_cons, List.length_nil, List.length_map, Nat.reduceAdd, Nat.reduceSub, List.replicate_succ, List.replicate_zero, List.cons_append, List.nil_append])
  (refine wk ?_; (repeat' first | exact True.intro | refine Lf.mk ?_ ?_); all_goals intro hP)
  (refine resC ?_; (repeat' (first | exact True.intro | refine Lf.mk ?_ ?_)))
  simp only [Nat.le_refl, if_true]
  exact Cv.refl _
theorem Others_run (H0 : List AObj) : ARun Try.prog 57 [] H0 (.ret (.rs 1 (rStr wOthers)) H0) := by
  (refine ARun.intro Try.func57 rfl Try.call57 Try.ntmps57 Try.results57 ?_; simp only [List.length_cons, List.length_nil, List.length_map, Nat.reduceAdd, Nat.reduceSub, List.replicate_succ, List.replicate_zero, List.cons_append, List.nil_append])
  (refine wk ?_; (repeat' first | exact True.intro | refine Lf.mk ?_ ?_); all_goals intro hP)
  (refine resC ?_; (repeat' (first | exact True.intro | refine Lf.mk ?_ ?_)))
  simp only [Nat.le_refl, if_true]
  exact Cv.refl _
end Go.Proofs.Ytiifbdkedainnaa.Y

set_option maxHeartbeats 8000000
set_option maxRecDepth 100000
set_option linter.unusedVariables false
set_option linter.unusedSimpArgs false
set_option linter.unusedSectionVars false
namespace Go.Proofs.Ytiifbdkedainnaa.Y
open Go.Proofs.Ytiifbdkedainnaa.AL Go.Proofs Go
attribute [local irreducible] AWP AWL AWG AWR AWE AWX AWO AWSeq AWSG AWSR AWSO AWSE AWSF GoodP OGW OGR OGE OGX PGW PGR PGE Wk AWLoop AWPD AWLD

theorem bytes_nn {s : ByteArray} {c : Int} (h : c ∈ bytesZ s) : 0 ≤ c ∧ c < 256 := by
  unfold bytesZ at h
  obtain ⟨b, _, rfl⟩ := List.mem_map.1 h
  have := b.toNat_lt
  omega
theorem key_nn {l : List ByteArray} {s : ByteArray} : decide (0 ≤ placeS l s 0) = inB l s := by
  have := placeS_nn (l := l) (s := s) (i := 0) (Int.le_refl _)
  cases h : inB l s with
  | true => simpa using this.2 h
  | false => simp only [decide_eq_false_iff_not]; intro h0; rw [this.1 h0] at h; cases h
theorem charS_iff (k : Nat) (c : Int) : charS k c = true ↔ (97 ≤ c ∧ c ≤ 122) ∨ (k ≠ 0 ∧ ((48 ≤ c ∧ c ≤ 57) ∨ c = 95)) := by unfold charS; simp
theorem Name_run (s : ByteArray) (hs : s.size ≤ 2000000) (H0 : List AObj) :
    ARun Try.prog 31 [aStr s] H0 (.ret (.b (nameB s)) H0) := by
  have u1 := fun H0 => Units_run H0
  have u2 := fun H0 => Events_run H0
  have u3 := fun H0 => Policies_run H0
  have u4 := fun H0 => Inputs_run H0
  have u5 := fun H0 => Others_run H0
  have i1 := fun H0 => In_run wUnits s (by decide) H0
  have i2 := fun H0 => In_run wEvents s (by decide) H0
  have i3 := fun H0 => In_run wPolicies s (by decide) H0
  have i4 := fun H0 => In_run wInputs s (by decide) H0
  have i5 := fun H0 => In_run wOthers s (by decide) H0
  (refine ARun.intro Try.func31 rfl Try.call31 Try.ntmps31 Try.results31 ?_; simp only [List.length_cons, List.length_nil, List.length_map, Nat.reduceAdd, Nat.reduceSub, List.replicate_succ, List.replicate_zero, List.cons_append, List.nil_append])
  (refine wkO ?_; (repeat' first | exact True.intro | refine Lf.mk ?_ ?_); all_goals intro hP)
  refine awp_loop_ind (σ := Nat) (fun k => s.size - k) (fun k => k ≤ s.size ∧ charsS (bytesZ s) 0 = charsS ((bytesZ s).drop k) k)
    (fun k => (aStr s :: .any :: .any :: .i k :: .any :: .any :: .any :: .any :: .any :: .any :: .any :: .any :: .any :: .any :: .any :: .any :: .any :: .any :: .any :: .any :: .any :: .any :: .any :: .any :: .any :: .any :: .any :: .any :: .any :: .any :: .any :: .any :: .any :: .any :: .any :: .any :: .any :: .any :: .any :: .any :: .any :: .any :: .any :: .any :: .any :: .any :: .any :: .any :: .any :: .any :: .any :: .any :: .any :: .any :: .any :: .any :: .any :: .any :: .any :: .any :: .any :: .any :: .any :: .any :: .any :: .any :: .any :: .any :: .any :: .any :: .any :: .any :: .any :: .any :: .any :: .any :: .any :: [])) (fun k => H0) 0 ⟨Nat.zero_le _, by simp⟩ (by (refine fgtX ?_; try exact True.intro)) ?_
  rintro k ⟨k1, k2⟩
  have hw : IntKind.i64.wrap ((k : Int) + 1) = ((k + 1 : Nat) : Int) := by rw [wrap_of (by omega) (by omega)]; omega
  by_cases hk : k = s.size
  · subst hk
    rw [List.drop_eq_nil_of_le (by rw [bytesZ_len]; exact Nat.le_refl _)] at k2
    have k3 : charsS (bytesZ s) 0 = true := by rw [k2]; rfl
    clear k2
    have e1 := key_nn (l := wUnits) (s := s)
    have e2 := key_nn (l := wEvents) (s := s)
    have e3 := key_nn (l := wPolicies) (s := s)
    have e4 := key_nn (l := wInputs) (s := s)
    have e5 := key_nn (l := wOthers) (s := s)
    generalize hp1 : placeS wUnits s 0 = p1 at *
    generalize hp2 : placeS wEvents s 0 = p2 at *
    generalize hp3 : placeS wPolicies s 0 = p3 at *
    generalize hp4 : placeS wInputs s 0 = p4 at *
    generalize hp5 : placeS wOthers s 0 = p5 at *
    have hkey : keyB s = (decide (0 ≤ p1) || (decide (0 ≤ p2) || (decide (0 ≤ p3) || (decide (0 ≤ p4) || decide (0 ≤ p5))))) := by
      unfold keyB; rw [e1, e2, e3, e4, e5]
    (have cc1 := fun z1 => u1 z1; have cc2 := fun z1 => u2 z1; have cc3 := fun z1 => u3 z1; have cc4 := fun z1 => u4 z1; have cc5 := fun z1 => u5 z1; have cc6 := fun z1 => i1 z1; have cc7 := fun z1 => i2 z1; have cc8 := fun z1 => i3 z1; have cc9 := fun z1 => i4 z1; have cc10 := fun z1 => i5 z1; refine wkO ?_; clear cc1 cc2 cc3 cc4 cc5 cc6 cc7 cc8 cc9 cc10; (repeat' first | exact True.intro | refine Lf.mk ?_ ?_); all_goals intro hP)
    all_goals clear u1 u2 u3 u4 u5 i1 i2 i3 i4 i5 e1 e2 e3 e4 e5
    all_goals ((refine resX ?_; try exact True.intro))
    all_goals (unfold nameB; rw [k3, hkey]; refine congrArg (fun b => AV.pv (PV.sc (Value.bool b))) ?_; rw [Bool.eq_iff_iff]; simp <;> omega)
  · have hlt : k < s.size := by omega
    have hlz : k < (bytesZ s).length := by rw [bytesZ_len]; exact hlt
    have hd : (bytesZ s).drop k = (bytesZ s).getD k 0 :: (bytesZ s).drop (k + 1) := by
      rw [List.drop_eq_getElem_cons hlz, List.getD_eq_getElem?_getD, List.getElem?_eq_getElem hlz]; rfl
    have hb := bytes_nn (getD_mem hlz)
    rw [hd] at k2
    simp only [charsS] at k2
    (have ww1 := hw; refine wkO ?_; clear ww1; (repeat' first | exact True.intro | refine Lf.mk ?_ ?_); all_goals intro hP)
    all_goals first
      | (refine ⟨k + 1, by omega, ⟨by omega, ?_⟩, by (refine fgtX ?_; try exact True.intro)⟩; rw [k2, show charS k ((bytesZ s).getD k 0) = true from (charS_iff _ _).2 (by omega), Bool.true_and]; done)
      | ((refine resX ?_; try exact True.intro); unfold nameB; rw [k2, show charS k ((bytesZ s).getD k 0) = false from Bool.eq_false_iff.2 (fun h => by have := (charS_iff _ _).1 h; omega), Bool.false_and, Bool.false_and]; done)
end Go.Proofs.Ytiifbdkedainnaa.Y

set_option maxHeartbeats 8000000
set_option maxRecDepth 100000
set_option linter.unusedVariables false
set_option linter.unusedSimpArgs false
set_option linter.unusedSectionVars false
namespace Go.Proofs.Ytiifbdkedainnaa.Y
open Go.Proofs.Ytiifbdkedainnaa.AL Go.Proofs Go
attribute [local irreducible] AWP AWL AWG AWR AWE AWX AWO AWSeq AWSG AWSR AWSO AWSE AWSF GoodP OGW OGR OGE OGX PGW PGR PGE Wk AWLoop AWPD AWLD

theorem RVar_run (v : Vr) (hs : v.name.size ≤ 2000000) (H0 : List AObj) : ARun Try.prog 32 [.ag (encV v)] H0 (.ret (.b (varB v)) H0) := by
  have h1 := fun H0 => Name_run v.name hs H0
  obtain ⟨nm, u, lo, hi, ini⟩ := v
  simp only at h1 hs
  simp only [encV]
  cases hn : nameB nm with
  | true =>
    simp only [hn] at h1
    (refine ARun.intro Try.func32 rfl Try.call32 Try.ntmps32 Try.results32 ?_; simp only [List.length_cons, List.length_nil, List.length_map, Nat.reduceAdd, Nat.reduceSub, List.replicate_succ, List.replicate_zero, List.cons_append, List.nil_append])
    (have cc1 := fun z1 => h1 z1; refine wkO ?_; clear cc1; (repeat' first | exact True.intro | refine Lf.mk ?_ ?_); all_goals intro hP)
    all_goals clear h1
    all_goals ((refine resX ?_; try exact True.intro))
    all_goals (unfold varB; simp only [hn, Bool.true_and]; refine congrArg (fun b => AV.pv (PV.sc (Value.bool b))) ?_; rw [Bool.eq_iff_iff]; simp <;> omega)
  | false =>
    simp only [hn] at h1
    (refine ARun.intro Try.func32 rfl Try.call32 Try.ntmps32 Try.results32 ?_; simp only [List.length_cons, List.length_nil, List.length_map, Nat.reduceAdd, Nat.reduceSub, List.replicate_succ, List.replicate_zero, List.cons_append, List.nil_append])
    (have cc1 := fun z1 => h1 z1; refine wkO ?_; clear cc1; (repeat' first | exact True.intro | refine Lf.mk ?_ ?_); all_goals intro hP)
    all_goals clear h1
    all_goals ((refine resX ?_; try exact True.intro))
    all_goals (unfold varB; simp [hn])
theorem RFind_run (l : List Vr) (s : ByteArray) (hl : l.length ≤ 2000000) (H0 : List AObj) :
    ARun Try.prog 33 [.rs 5 (l.map encV), aStr s] H0 (.ret (.i (findV l s 0)) H0) := by
  (refine ARun.intro Try.func33 rfl Try.call33 Try.ntmps33 Try.results33 ?_; simp only [List.length_cons, List.length_nil, List.length_map, Nat.reduceAdd, Nat.reduceSub, List.replicate_succ, List.replicate_zero, List.cons_append, List.nil_append])
  (refine wkO ?_; (repeat' first | exact True.intro | refine Lf.mk ?_ ?_); all_goals intro hP)
  refine awp_loop_ind (σ := Nat) (fun k => l.length - k) (fun k => k ≤ l.length ∧ findV l s 0 = findV (l.drop k) s k)
    (fun k => (.rs 5 (l.map encV) :: aStr s :: .any :: .any :: .any :: .i k :: .any :: .any :: .any :: .any :: .any :: .any :: .any :: .any :: .any :: .any :: .any :: .any :: .any :: .any :: [])) (fun k => H0) 0 ⟨Nat.zero_le _, by simp⟩ (by (refine fgtX ?_; try exact True.intro)) ?_
  rintro k ⟨k1, k2⟩
  have hw : IntKind.i64.wrap ((k : Int) + 1) = ((k + 1 : Nat) : Int) := by rw [wrap_of (by omega) (by omega)]; omega
  cases hd : l.drop k with
  | nil =>
    have hk : l.length ≤ k := List.drop_eq_nil_iff.1 hd
    rw [hd] at k2
    (refine wkO ?_; (repeat' first | exact True.intro | refine Lf.mk ?_ ?_); all_goals intro hP)
    (refine resX ?_; try exact True.intro)
    rw [k2]; rfl
  | cons v r =>
    have hk : k < l.length := by have := congrArg List.length hd; simp at this; omega
    rw [hd] at k2
    obtain ⟨hvk, _, hr, _⟩ := drop_cons hd
    have hl' : (l.map encV)[k]? = some (cV v) := by rw [List.getElem?_map, hvk]; rfl
    cases he : (v.name.toList == s.toList) with
    | true =>
      (have ww1 := hl'; have ww2 := hw; have ww3 := he; refine wkO ?_; clear ww1 ww2 ww3; (repeat' first | exact True.intro | refine Lf.mk ?_ ?_); all_goals intro hP)
      (refine resX ?_; try exact True.intro)
      rw [k2, findV, if_pos (by exact he)]
    | false =>
      (have ww1 := hl'; have ww2 := hw; have ww3 := he; refine wkO ?_; clear ww1 ww2 ww3; (repeat' first | exact True.intro | refine Lf.mk ?_ ?_); all_goals intro hP)
      refine ⟨k + 1, by omega, ⟨by omega, ?_⟩, by (refine fgtX ?_; try exact True.intro)⟩
      rw [k2, hr, findV, if_neg (by unfold eqB; rw [he]; simp)]
      rfl
theorem RUses_run (l : List Vr) (k u : Int) (hl : l.length ≤ 2000000) (H0 : List AObj) :
    ARun Try.prog 35 [.rs 5 (l.map encV), .i k, .i u] H0 (.ret (.b (usesB l k u)) H0) := by
  by_cases hk : 0 ≤ k ∧ k < l.length
  · have hlt : k.toNat < l.length := by omega
    have hv := getEV hlt
    have hl' : (l.map encV)[k.toNat]? = some (cV (l.getD k.toNat dV)) := by rw [List.getElem?_map, hv]; rfl
    (refine ARun.intro Try.func35 rfl Try.call35 Try.ntmps35 Try.results35 ?_; simp only [List.length_cons, List.length_nil, List.length_map, Nat.reduceAdd, Nat.reduceSub, List.replicate_succ, List.replicate_zero, List.cons_append, List.nil_append])
    (have ww1 := hl'; refine wkO ?_; clear ww1; (repeat' first | exact True.intro | refine Lf.mk ?_ ?_); all_goals intro hP)
    all_goals ((refine resX ?_; try exact True.intro))
    all_goals (unfold usesB; rw [hv]; simp [hk])
  · (refine ARun.intro Try.func35 rfl Try.call35 Try.ntmps35 Try.results35 ?_; simp only [List.length_cons, List.length_nil, List.length_map, Nat.reduceAdd, Nat.reduceSub, List.replicate_succ, List.replicate_zero, List.cons_append, List.nil_append])
    (refine wkO ?_; (repeat' first | exact True.intro | refine Lf.mk ?_ ?_); all_goals intro hP)
    all_goals ((refine resX ?_; try exact True.intro))
    all_goals (unfold usesB; rw [decide_eq_false hk, Bool.false_and])
end Go.Proofs.Ytiifbdkedainnaa.Y

set_option maxHeartbeats 8000000
set_option maxRecDepth 100000
set_option linter.unusedVariables false
set_option linter.unusedSimpArgs false
set_option linter.unusedSectionVars false
namespace Go.Proofs.Ytiifbdkedainnaa.Y
open Go.Proofs.Ytiifbdkedainnaa.AL Go.Proofs Go
attribute [local irreducible] AWP AWL AWG AWR AWE AWX AWO AWSeq AWSG AWSR AWSO AWSE AWSF GoodP OGW OGR OGE OGX PGW PGR PGE Wk AWLoop AWPD AWLD

theorem eqB_iff {a b : ByteArray} : (a.toList == b.toList) = true ↔ a = b := by rw [← beq_toListBytes]; exact bytesBeq
theorem eqB_sym (a b : ByteArray) : (a.toList == b.toList) = (b.toList == a.toList) := eqB_comm a b
theorem SIndex_run (l : List ByteArray) (s : ByteArray) (hl : l.length ≤ 2000000) (H0 : List AObj) :
    ARun Try.prog 105 [.rs 1 (rStr l), aStr s] H0 (.ret (.i (placeS l s 0)) H0) := by
  (refine ARun.intro Try.func105 rfl Try.call105 Try.ntmps105 Try.results105 ?_; simp only [List.length_cons, List.length_nil, List.length_map, Nat.reduceAdd, Nat.reduceSub, List.replicate_succ, List.replicate_zero, List.cons_append, List.nil_append])
  (refine wkO ?_; (repeat' first | exact True.intro | refine Lf.mk ?_ ?_); all_goals intro hP)
  refine awp_loop_ind (σ := Nat) (fun k => l.length - k) (fun k => k ≤ l.length ∧ placeS l s 0 = placeS (l.drop k) s k)
    (fun k => (.rs 1 (rStr l) :: aStr s :: .any :: .any :: .any :: .any :: .any :: .i l.length :: .i k :: .any :: .any :: .any :: .any :: .any :: .any :: .any :: .any :: .any :: .any :: [])) (fun k => H0) 0 ⟨Nat.zero_le _, by simp⟩ (by (refine fgtX ?_; try exact True.intro)) ?_
  rintro k ⟨k1, k2⟩
  have hw : IntKind.i64.wrap ((k : Int) + 1) = ((k + 1 : Nat) : Int) := by rw [wrap_of (by omega) (by omega)]; omega
  cases hd : l.drop k with
  | nil =>
    have hk : l.length ≤ k := List.drop_eq_nil_iff.1 hd
    rw [hd] at k2
    (refine wkO ?_; (repeat' first | exact True.intro | refine Lf.mk ?_ ?_); all_goals intro hP)
    (refine resX ?_; try exact True.intro)
    rw [k2]; rfl
  | cons w r =>
    have hk : k < l.length := by have := congrArg List.length hd; simp at this; omega
    rw [hd] at k2
    have hwk : l[k]? = some w := by
      have := List.getElem?_drop (xs := l) (i := k) (j := 0)
      rw [hd] at this; simpa using this.symm
    have hr : l.drop (k + 1) = r := by rw [← List.drop_drop, hd]; rfl
    have hl' : (rStr l)[k]? = some [PV.sc (.string w)] := by rw [List.getElem?_map, hwk]; rfl
    cases he : (s.toList == w.toList) with
    | true =>
      (have ww1 := hl'; have ww2 := hw; have ww3 := he; refine wkO ?_; clear ww1 ww2 ww3; (repeat' first | exact True.intro | refine Lf.mk ?_ ?_); all_goals intro hP)
      (refine resX ?_; try exact True.intro)
      rw [k2, placeS, if_pos (by unfold eqB; rw [eqB_sym]; exact he)]
    | false =>
      (have ww1 := hl'; have ww2 := hw; have ww3 := he; refine wkO ?_; clear ww1 ww2 ww3; (repeat' first | exact True.intro | refine Lf.mk ?_ ?_); all_goals intro hP)
      refine ⟨k + 1, by omega, ⟨by omega, ?_⟩, by (refine fgtX ?_; try exact True.intro)⟩
      rw [k2, hr, placeS, if_neg (by unfold eqB; rw [eqB_sym, he]; simp)]
      rfl
theorem place_lt {l : List ByteArray} {s : ByteArray} : ∀ {i : Int}, 0 ≤ i → -1 ≤ placeS l s i ∧ placeS l s i ≤ i + l.length := by
  induction l with
  | nil => intro i hi; simp [placeS]; omega
  | cons w l ih =>
    intro i hi
    unfold placeS
    have := ih (i := i + 1) (by omega)
    split
    · simp only [List.length_cons]; omega
    · simp only [List.length_cons]; omega
theorem unitOf_run (s : ByteArray) (H0 : List AObj) : ARun Try.prog 99 [aStr s] H0 (.ret (.tup [.i (placeS wUnits s 0), .b (inB wUnits s)]) H0) := by
  have h := SIndex_run wUnits s (by decide) []
  (refine ARun.intro Try.func99 rfl Try.call99 Try.ntmps99 Try.results99 ?_; simp only [List.length_cons, List.length_nil, List.length_map, Nat.reduceAdd, Nat.reduceSub, List.replicate_succ, List.replicate_zero, List.cons_append, List.nil_append])
  (have dd1 := h; refine wkO ?_; clear dd1; (repeat' first | exact True.intro | refine Lf.mk ?_ ?_); all_goals intro hP)
  (refine resX ?_; try exact True.intro)
  rw [key_nn]
theorem eventOf_run (s : ByteArray) (H0 : List AObj) : ARun Try.prog 100 [aStr s] H0 (.ret (.tup [.i (placeS wEvents s 0), .b (inB wEvents s)]) H0) := by
  have h := SIndex_run wEvents s (by decide) []
  (refine ARun.intro Try.func100 rfl Try.call100 Try.ntmps100 Try.results100 ?_; simp only [List.length_cons, List.length_nil, List.length_map, Nat.reduceAdd, Nat.reduceSub, List.replicate_succ, List.replicate_zero, List.cons_append, List.nil_append])
  (have dd1 := h; refine wkO ?_; clear dd1; (repeat' first | exact True.intro | refine Lf.mk ?_ ?_); all_goals intro hP)
  (refine resX ?_; try exact True.intro)
  rw [key_nn]
theorem policyOf_run (s : ByteArray) (H0 : List AObj) : ARun Try.prog 101 [aStr s] H0 (.ret (.tup [.i (placeS wPolicies s 0 + 1), .b (inB wPolicies s)]) H0) := by
  have h := SIndex_run wPolicies s (by decide) []
  have hp := place_lt (l := wPolicies) (s := s) (i := 0) (Int.le_refl _)
  have hlen : wPolicies.length = 6 := rfl
  rw [hlen] at hp
  (refine ARun.intro Try.func101 rfl Try.call101 Try.ntmps101 Try.results101 ?_; simp only [List.length_cons, List.length_nil, List.length_map, Nat.reduceAdd, Nat.reduceSub, List.replicate_succ, List.replicate_zero, List.cons_append, List.nil_append])
  (have dd1 := h; refine wkO ?_; clear dd1; (repeat' first | exact True.intro | refine Lf.mk ?_ ?_); all_goals intro hP)
  (refine resX ?_; try exact True.intro)
  rw [key_nn]
theorem isInput_run (s : ByteArray) (H0 : List AObj) : ARun Try.prog 102 [aStr s] H0 (.ret (.b (inB wInputs s)) H0) := by
  have e : inB wInputs s = ((s.toList == (⟨#[97, 99, 107, 101, 100]⟩ : ByteArray).toList) || ((s.toList == (⟨#[114, 116, 116]⟩ : ByteArray).toList) || ((s.toList == (⟨#[115, 105, 122, 101]⟩ : ByteArray).toList) || (s.toList == (⟨#[116, 111, 116, 97, 108]⟩ : ByteArray).toList)))) := by
    unfold inB wInputs
    simp only [List.any_cons, List.any_nil, Bool.or_false, eqB, eqB_sym _ s]
  (refine ARun.intro Try.func102 rfl Try.call102 Try.ntmps102 Try.results102 ?_; simp only [List.length_cons, List.length_nil, List.length_map, Nat.reduceAdd, Nat.reduceSub, List.replicate_succ, List.replicate_zero, List.cons_append, List.nil_append])
  (refine wk ?_; (repeat' first | exact True.intro | refine Lf.mk ?_ ?_); all_goals intro hP)
  all_goals ((refine resX ?_; try exact True.intro))
  all_goals (rw [e]; refine congrArg (fun b => AV.pv (PV.sc (Value.bool b))) ?_; rw [Bool.eq_iff_iff]; simp only [Bool.or_eq_true, beq_iff_eq, Bool.true_eq_false, iff_true, Bool.false_eq_true, iff_false]; clear e; simp_all)
end Go.Proofs.Ytiifbdkedainnaa.Y

set_option maxHeartbeats 8000000
set_option maxRecDepth 100000
set_option linter.unusedVariables false
set_option linter.unusedSimpArgs false
set_option linter.unusedSectionVars false
namespace Go.Proofs.Ytiifbdkedainnaa.Y
open Go.Proofs.Ytiifbdkedainnaa.AL Go.Proofs Go
attribute [local irreducible] AWP AWL AWG AWR AWE AWX AWO AWSeq AWSG AWSR AWSO AWSE AWSF GoodP OGW OGR OGE OGX PGW PGR PGE Wk AWLoop AWPD AWLD

theorem isKey_run (s : ByteArray) (H0 : List AObj) : ARun Try.prog 92 [aStr s] H0 (.ret (.b (keyB s)) H0) := by
  have h1 := fun H0 => unitOf_run s H0
  have h2 := fun H0 => eventOf_run s H0
  have h3 := fun H0 => policyOf_run s H0
  have h4 := fun H0 => isInput_run s H0
  have e : inB wOthers s = ((s.toList == (⟨#[108, 105, 110, 107]⟩ : ByteArray).toList) || ((s.toList == (⟨#[112, 97, 116, 104]⟩ : ByteArray).toList) || ((s.toList == (⟨#[102, 108, 111, 119]⟩ : ByteArray).toList) || ((s.toList == (⟨#[112, 114, 111, 103, 114, 97, 109]⟩ : ByteArray).toList) || ((s.toList == (⟨#[100, 101, 108, 97, 121]⟩ : ByteArray).toList) || ((s.toList == (⟨#[114, 111, 111, 109]⟩ : ByteArray).toList) || ((s.toList == (⟨#[98, 97, 99, 107]⟩ : ByteArray).toList) || ((s.toList == (⟨#[112, 97, 116, 104, 115]⟩ : ByteArray).toList) || ((s.toList == (⟨#[119, 105, 110, 100, 111, 119]⟩ : ByteArray).toList) || ((s.toList == (⟨#[115, 116, 97, 114, 116]⟩ : ByteArray).toList) || ((s.toList == (⟨#[112, 97, 99, 101]⟩ : ByteArray).toList) || ((s.toList == (⟨#[118, 97, 114]⟩ : ByteArray).toList) || ((s.toList == (⟨#[111, 110]⟩ : ByteArray).toList) || ((s.toList == (⟨#[105, 102]⟩ : ByteArray).toList) || ((s.toList == (⟨#[101, 108, 115, 101]⟩ : ByteArray).toList) || ((s.toList == (⟨#[109, 105, 110]⟩ : ByteArray).toList) || ((s.toList == (⟨#[109, 97, 120]⟩ : ByteArray).toList) || ((s.toList == (⟨#[117, 112]⟩ : ByteArray).toList))))))))))))))))))) := by
    simp only [inB, wOthers, List.any_cons, List.any_nil, Bool.or_false, eqB, eqB_sym _ s]
  cases q0 : (s.toList == (⟨#[108, 105, 110, 107]⟩ : ByteArray).toList) with
  | true =>
    have hq := q0
    have hk : keyB s = true := by unfold keyB; rw [e, q0]; simp
    rw [hk]
    clear e hk q0
    (refine ARun.intro Try.func92 rfl Try.call92 Try.ntmps92 Try.results92 ?_; simp only [List.length_cons, List.length_nil, List.length_map, Nat.reduceAdd, Nat.reduceSub, List.replicate_succ, List.replicate_zero, List.cons_append, List.nil_append])
    (have ww1 := hq; refine wk ?_; clear ww1; (repeat' first | exact True.intro | refine Lf.mk ?_ ?_); all_goals intro hP)
    (refine resX ?_; try exact True.intro)
  | false =>
  cases q1 : (s.toList == (⟨#[112, 97, 116, 104]⟩ : ByteArray).toList) with
  | true =>
    have hq := And.intro q0 q1
    have hk : keyB s = true := by unfold keyB; rw [e, q1]; simp
    rw [hk]
    clear e hk q0 q1
    (refine ARun.intro Try.func92 rfl Try.call92 Try.ntmps92 Try.results92 ?_; simp only [List.length_cons, List.length_nil, List.length_map, Nat.reduceAdd, Nat.reduceSub, List.replicate_succ, List.replicate_zero, List.cons_append, List.nil_append])
    (have ww1 := hq; refine wk ?_; clear ww1; (repeat' first | exact True.intro | refine Lf.mk ?_ ?_); all_goals intro hP)
    (refine resX ?_; try exact True.intro)
  | false =>
  cases q2 : (s.toList == (⟨#[102, 108, 111, 119]⟩ : ByteArray).toList) with
  | true =>
    have hq := And.intro q0 (And.intro q1 q2)
    have hk : keyB s = true := by unfold keyB; rw [e, q2]; simp
    rw [hk]
    clear e hk q0 q1 q2
    (refine ARun.intro Try.func92 rfl Try.call92 Try.ntmps92 Try.results92 ?_; simp only [List.length_cons, List.length_nil, List.length_map, Nat.reduceAdd, Nat.reduceSub, List.replicate_succ, List.replicate_zero, List.cons_append, List.nil_append])
    (have ww1 := hq; refine wk ?_; clear ww1; (repeat' first | exact True.intro | refine Lf.mk ?_ ?_); all_goals intro hP)
    (refine resX ?_; try exact True.intro)
  | false =>
  cases q3 : (s.toList == (⟨#[112, 114, 111, 103, 114, 97, 109]⟩ : ByteArray).toList) with
  | true =>
    have hq := And.intro q0 (And.intro q1 (And.intro q2 q3))
    have hk : keyB s = true := by unfold keyB; rw [e, q3]; simp
    rw [hk]
    clear e hk q0 q1 q2 q3
    (refine ARun.intro Try.func92 rfl Try.call92 Try.ntmps92 Try.results92 ?_; simp only [List.length_cons, List.length_nil, List.length_map, Nat.reduceAdd, Nat.reduceSub, List.replicate_succ, List.replicate_zero, List.cons_append, List.nil_append])
    (have ww1 := hq; refine wk ?_; clear ww1; (repeat' first | exact True.intro | refine Lf.mk ?_ ?_); all_goals intro hP)
    (refine resX ?_; try exact True.intro)
  | false =>
  cases q4 : (s.toList == (⟨#[100, 101, 108, 97, 121]⟩ : ByteArray).toList) with
  | true =>
    have hq := And.intro q0 (And.intro q1 (And.intro q2 (And.intro q3 q4)))
    have hk : keyB s = true := by unfold keyB; rw [e, q4]; simp
    rw [hk]
    clear e hk q0 q1 q2 q3 q4
    (refine ARun.intro Try.func92 rfl Try.call92 Try.ntmps92 Try.results92 ?_; simp only [List.length_cons, List.length_nil, List.length_map, Nat.reduceAdd, Nat.reduceSub, List.replicate_succ, List.replicate_zero, List.cons_append, List.nil_append])
    (have ww1 := hq; refine wk ?_; clear ww1; (repeat' first | exact True.intro | refine Lf.mk ?_ ?_); all_goals intro hP)
    (refine resX ?_; try exact True.intro)
  | false =>
  cases q5 : (s.toList == (⟨#[114, 111, 111, 109]⟩ : ByteArray).toList) with
  | true =>
    have hq := And.intro q0 (And.intro q1 (And.intro q2 (And.intro q3 (And.intro q4 q5))))
    have hk : keyB s = true := by unfold keyB; rw [e, q5]; simp
    rw [hk]
    clear e hk q0 q1 q2 q3 q4 q5
    (refine ARun.intro Try.func92 rfl Try.call92 Try.ntmps92 Try.results92 ?_; simp only [List.length_cons, List.length_nil, List.length_map, Nat.reduceAdd, Nat.reduceSub, List.replicate_succ, List.replicate_zero, List.cons_append, List.nil_append])
    (have ww1 := hq; refine wk ?_; clear ww1; (repeat' first | exact True.intro | refine Lf.mk ?_ ?_); all_goals intro hP)
    (refine resX ?_; try exact True.intro)
  | false =>
  cases q6 : (s.toList == (⟨#[98, 97, 99, 107]⟩ : ByteArray).toList) with
  | true =>
    have hq := And.intro q0 (And.intro q1 (And.intro q2 (And.intro q3 (And.intro q4 (And.intro q5 q6)))))
    have hk : keyB s = true := by unfold keyB; rw [e, q6]; simp
    rw [hk]
    clear e hk q0 q1 q2 q3 q4 q5 q6
    (refine ARun.intro Try.func92 rfl Try.call92 Try.ntmps92 Try.results92 ?_; simp only [List.length_cons, List.length_nil, List.length_map, Nat.reduceAdd, Nat.reduceSub, List.replicate_succ, List.replicate_zero, List.cons_append, List.nil_append])
    (have ww1 := hq; refine wk ?_; clear ww1; (repeat' first | exact True.intro | refine Lf.mk ?_ ?_); all_goals intro hP)
    (refine resX ?_; try exact True.intro)
  | false =>
  cases q7 : (s.toList == (⟨#[112, 97, 116, 104, 115]⟩ : ByteArray).toList) with
  | true =>
    have hq := And.intro q0 (And.intro q1 (And.intro q2 (And.intro q3 (And.intro q4 (And.intro q5 (And.intro q6 q7))))))
    have hk : keyB s = true := by unfold keyB; rw [e, q7]; simp
    rw [hk]
    clear e hk q0 q1 q2 q3 q4 q5 q6 q7
    (refine ARun.intro Try.func92 rfl Try.call92 Try.ntmps92 Try.results92 ?_; simp only [List.length_cons, List.length_nil, List.length_map, Nat.reduceAdd, Nat.reduceSub, List.replicate_succ, List.replicate_zero, List.cons_append, List.nil_append])
    (have ww1 := hq; refine wk ?_; clear ww1; (repeat' first | exact True.intro | refine Lf.mk ?_ ?_); all_goals intro hP)
    (refine resX ?_; try exact True.intro)
  | false =>
  cases q8 : (s.toList == (⟨#[119, 105, 110, 100, 111, 119]⟩ : ByteArray).toList) with
  | true =>
    have hq := And.intro q0 (And.intro q1 (And.intro q2 (And.intro q3 (And.intro q4 (And.intro q5 (And.intro q6 (And.intro q7 q8)))))))
    have hk : keyB s = true := by unfold keyB; rw [e, q8]; simp
    rw [hk]
    clear e hk q0 q1 q2 q3 q4 q5 q6 q7 q8
    (refine ARun.intro Try.func92 rfl Try.call92 Try.ntmps92 Try.results92 ?_; simp only [List.length_cons, List.length_nil, List.length_map, Nat.reduceAdd, Nat.reduceSub, List.replicate_succ, List.replicate_zero, List.cons_append, List.nil_append])
    (have ww1 := hq; refine wk ?_; clear ww1; (repeat' first | exact True.intro | refine Lf.mk ?_ ?_); all_goals intro hP)
    (refine resX ?_; try exact True.intro)
  | false =>
  cases q9 : (s.toList == (⟨#[115, 116, 97, 114, 116]⟩ : ByteArray).toList) with
  | true =>
    have hq := And.intro q0 (And.intro q1 (And.intro q2 (And.intro q3 (And.intro q4 (And.intro q5 (And.intro q6 (And.intro q7 (And.intro q8 q9))))))))
    have hk : keyB s = true := by unfold keyB; rw [e, q9]; simp
    rw [hk]
    clear e hk q0 q1 q2 q3 q4 q5 q6 q7 q8 q9
    (refine ARun.intro Try.func92 rfl Try.call92 Try.ntmps92 Try.results92 ?_; simp only [List.length_cons, List.length_nil, List.length_map, Nat.reduceAdd, Nat.reduceSub, List.replicate_succ, List.replicate_zero, List.cons_append, List.nil_append])
    (have ww1 := hq; refine wk ?_; clear ww1; (repeat' first | exact True.intro | refine Lf.mk ?_ ?_); all_goals intro hP)
    (refine resX ?_; try exact True.intro)
  | false =>
  cases q10 : (s.toList == (⟨#[112, 97, 99, 101]⟩ : ByteArray).toList) with
  | true =>
    have hq := And.intro q0 (And.intro q1 (And.intro q2 (And.intro q3 (And.intro q4 (And.intro q5 (And.intro q6 (And.intro q7 (And.intro q8 (And.intro q9 q10)))))))))
    have hk : keyB s = true := by unfold keyB; rw [e, q10]; simp
    rw [hk]
    clear e hk q0 q1 q2 q3 q4 q5 q6 q7 q8 q9 q10
    (refine ARun.intro Try.func92 rfl Try.call92 Try.ntmps92 Try.results92 ?_; simp only [List.length_cons, List.length_nil, List.length_map, Nat.reduceAdd, Nat.reduceSub, List.replicate_succ, List.replicate_zero, List.cons_append, List.nil_append])
    (have ww1 := hq; refine wk ?_; clear ww1; (repeat' first | exact True.intro | refine Lf.mk ?_ ?_); all_goals intro hP)
    (refine resX ?_; try exact True.intro)
  | false =>
  cases q11 : (s.toList == (⟨#[118, 97, 114]⟩ : ByteArray).toList) with
  | true =>
    have hq := And.intro q0 (And.intro q1 (And.intro q2 (And.intro q3 (And.intro q4 (And.intro q5 (And.intro q6 (And.intro q7 (And.intro q8 (And.intro q9 (And.intro q10 q11))))))))))
    have hk : keyB s = true := by unfold keyB; rw [e, q11]; simp
    rw [hk]
    clear e hk q0 q1 q2 q3 q4 q5 q6 q7 q8 q9 q10 q11
    (refine ARun.intro Try.func92 rfl Try.call92 Try.ntmps92 Try.results92 ?_; simp only [List.length_cons, List.length_nil, List.length_map, Nat.reduceAdd, Nat.reduceSub, List.replicate_succ, List.replicate_zero, List.cons_append, List.nil_append])
    (have ww1 := hq; refine wk ?_; clear ww1; (repeat' first | exact True.intro | refine Lf.mk ?_ ?_); all_goals intro hP)
    (refine resX ?_; try exact True.intro)
  | false =>
  cases q12 : (s.toList == (⟨#[111, 110]⟩ : ByteArray).toList) with
  | true =>
    have hq := And.intro q0 (And.intro q1 (And.intro q2 (And.intro q3 (And.intro q4 (And.intro q5 (And.intro q6 (And.intro q7 (And.intro q8 (And.intro q9 (And.intro q10 (And.intro q11 q12)))))))))))
    have hk : keyB s = true := by unfold keyB; rw [e, q12]; simp
    rw [hk]
    clear e hk q0 q1 q2 q3 q4 q5 q6 q7 q8 q9 q10 q11 q12
    (refine ARun.intro Try.func92 rfl Try.call92 Try.ntmps92 Try.results92 ?_; simp only [List.length_cons, List.length_nil, List.length_map, Nat.reduceAdd, Nat.reduceSub, List.replicate_succ, List.replicate_zero, List.cons_append, List.nil_append])
    (have ww1 := hq; refine wk ?_; clear ww1; (repeat' first | exact True.intro | refine Lf.mk ?_ ?_); all_goals intro hP)
    (refine resX ?_; try exact True.intro)
  | false =>
  cases q13 : (s.toList == (⟨#[105, 102]⟩ : ByteArray).toList) with
  | true =>
    have hq := And.intro q0 (And.intro q1 (And.intro q2 (And.intro q3 (And.intro q4 (And.intro q5 (And.intro q6 (And.intro q7 (And.intro q8 (And.intro q9 (And.intro q10 (And.intro q11 (And.intro q12 q13))))))))))))
    have hk : keyB s = true := by unfold keyB; rw [e, q13]; simp
    rw [hk]
    clear e hk q0 q1 q2 q3 q4 q5 q6 q7 q8 q9 q10 q11 q12 q13
    (refine ARun.intro Try.func92 rfl Try.call92 Try.ntmps92 Try.results92 ?_; simp only [List.length_cons, List.length_nil, List.length_map, Nat.reduceAdd, Nat.reduceSub, List.replicate_succ, List.replicate_zero, List.cons_append, List.nil_append])
    (have ww1 := hq; refine wk ?_; clear ww1; (repeat' first | exact True.intro | refine Lf.mk ?_ ?_); all_goals intro hP)
    (refine resX ?_; try exact True.intro)
  | false =>
  cases q14 : (s.toList == (⟨#[101, 108, 115, 101]⟩ : ByteArray).toList) with
  | true =>
    have hq := And.intro q0 (And.intro q1 (And.intro q2 (And.intro q3 (And.intro q4 (And.intro q5 (And.intro q6 (And.intro q7 (And.intro q8 (And.intro q9 (And.intro q10 (And.intro q11 (And.intro q12 (And.intro q13 q14)))))))))))))
    have hk : keyB s = true := by unfold keyB; rw [e, q14]; simp
    rw [hk]
    clear e hk q0 q1 q2 q3 q4 q5 q6 q7 q8 q9 q10 q11 q12 q13 q14
    (refine ARun.intro Try.func92 rfl Try.call92 Try.ntmps92 Try.results92 ?_; simp only [List.length_cons, List.length_nil, List.length_map, Nat.reduceAdd, Nat.reduceSub, List.replicate_succ, List.replicate_zero, List.cons_append, List.nil_append])
    (have ww1 := hq; refine wk ?_; clear ww1; (repeat' first | exact True.intro | refine Lf.mk ?_ ?_); all_goals intro hP)
    (refine resX ?_; try exact True.intro)
  | false =>
  cases q15 : (s.toList == (⟨#[109, 105, 110]⟩ : ByteArray).toList) with
  | true =>
    have hq := And.intro q0 (And.intro q1 (And.intro q2 (And.intro q3 (And.intro q4 (And.intro q5 (And.intro q6 (And.intro q7 (And.intro q8 (And.intro q9 (And.intro q10 (And.intro q11 (And.intro q12 (And.intro q13 (And.intro q14 q15))))))))))))))
    have hk : keyB s = true := by unfold keyB; rw [e, q15]; simp
    rw [hk]
    clear e hk q0 q1 q2 q3 q4 q5 q6 q7 q8 q9 q10 q11 q12 q13 q14 q15
    (refine ARun.intro Try.func92 rfl Try.call92 Try.ntmps92 Try.results92 ?_; simp only [List.length_cons, List.length_nil, List.length_map, Nat.reduceAdd, Nat.reduceSub, List.replicate_succ, List.replicate_zero, List.cons_append, List.nil_append])
    (have ww1 := hq; refine wk ?_; clear ww1; (repeat' first | exact True.intro | refine Lf.mk ?_ ?_); all_goals intro hP)
    (refine resX ?_; try exact True.intro)
  | false =>
  cases q16 : (s.toList == (⟨#[109, 97, 120]⟩ : ByteArray).toList) with
  | true =>
    have hq := And.intro q0 (And.intro q1 (And.intro q2 (And.intro q3 (And.intro q4 (And.intro q5 (And.intro q6 (And.intro q7 (And.intro q8 (And.intro q9 (And.intro q10 (And.intro q11 (And.intro q12 (And.intro q13 (And.intro q14 (And.intro q15 q16)))))))))))))))
    have hk : keyB s = true := by unfold keyB; rw [e, q16]; simp
    rw [hk]
    clear e hk q0 q1 q2 q3 q4 q5 q6 q7 q8 q9 q10 q11 q12 q13 q14 q15 q16
    (refine ARun.intro Try.func92 rfl Try.call92 Try.ntmps92 Try.results92 ?_; simp only [List.length_cons, List.length_nil, List.length_map, Nat.reduceAdd, Nat.reduceSub, List.replicate_succ, List.replicate_zero, List.cons_append, List.nil_append])
    (have ww1 := hq; refine wk ?_; clear ww1; (repeat' first | exact True.intro | refine Lf.mk ?_ ?_); all_goals intro hP)
    (refine resX ?_; try exact True.intro)
  | false =>
  cases q17 : (s.toList == (⟨#[117, 112]⟩ : ByteArray).toList) with
  | true =>
    have hq := And.intro q0 (And.intro q1 (And.intro q2 (And.intro q3 (And.intro q4 (And.intro q5 (And.intro q6 (And.intro q7 (And.intro q8 (And.intro q9 (And.intro q10 (And.intro q11 (And.intro q12 (And.intro q13 (And.intro q14 (And.intro q15 (And.intro q16 q17))))))))))))))))
    have hk : keyB s = true := by unfold keyB; rw [e, q17]; simp
    rw [hk]
    clear e hk q0 q1 q2 q3 q4 q5 q6 q7 q8 q9 q10 q11 q12 q13 q14 q15 q16 q17
    (refine ARun.intro Try.func92 rfl Try.call92 Try.ntmps92 Try.results92 ?_; simp only [List.length_cons, List.length_nil, List.length_map, Nat.reduceAdd, Nat.reduceSub, List.replicate_succ, List.replicate_zero, List.cons_append, List.nil_append])
    (have ww1 := hq; refine wk ?_; clear ww1; (repeat' first | exact True.intro | refine Lf.mk ?_ ?_); all_goals intro hP)
    (refine resX ?_; try exact True.intro)
  | false =>
  have hq := And.intro q0 (And.intro q1 (And.intro q2 (And.intro q3 (And.intro q4 (And.intro q5 (And.intro q6 (And.intro q7 (And.intro q8 (And.intro q9 (And.intro q10 (And.intro q11 (And.intro q12 (And.intro q13 (And.intro q14 (And.intro q15 (And.intro q16 q17))))))))))))))))
  have hk : keyB s = (inB wUnits s || (inB wEvents s || (inB wPolicies s || inB wInputs s))) := by
    unfold keyB; rw [e, q0, q1, q2, q3, q4, q5, q6, q7, q8, q9, q10, q11, q12, q13, q14, q15, q16, q17]; simp
  rw [hk]
  clear e hk q0 q1 q2 q3 q4 q5 q6 q7 q8 q9 q10 q11 q12 q13 q14 q15 q16 q17
  generalize inB wUnits s = uu at *
  generalize inB wEvents s = ee at *
  generalize inB wPolicies s = pp at *
  generalize inB wInputs s = ii at *
  (refine ARun.intro Try.func92 rfl Try.call92 Try.ntmps92 Try.results92 ?_; simp only [List.length_cons, List.length_nil, List.length_map, Nat.reduceAdd, Nat.reduceSub, List.replicate_succ, List.replicate_zero, List.cons_append, List.nil_append])
  (have ww1 := hq; have cc1 := fun z1 => h1 z1; have cc2 := fun z1 => h2 z1; have cc3 := fun z1 => h3 z1; have cc4 := fun z1 => h4 z1; refine wk ?_; clear ww1 cc1 cc2 cc3 cc4; (repeat' first | exact True.intro | refine Lf.mk ?_ ?_); all_goals intro hP)
  all_goals clear h1 h2 h3 h4
  all_goals ((refine resX ?_; try exact True.intro))
  all_goals simp_all
end Go.Proofs.Ytiifbdkedainnaa.Y

set_option maxHeartbeats 8000000
set_option maxRecDepth 100000
set_option linter.unusedVariables false
set_option linter.unusedSimpArgs false
set_option linter.unusedSectionVars false
namespace Go.Proofs.Ytiifbdkedainnaa.Y
open Go.Proofs.Ytiifbdkedainnaa.AL Go.Proofs Go
attribute [local irreducible] AWP AWL AWG AWR AWE AWX AWO AWSeq AWSG AWSR AWSO AWSE AWSF GoodP OGW OGR OGE OGX PGW PGR PGE Wk AWLoop AWPD AWLD

theorem empty_iff (s : ByteArray) : (s.toList == (⟨#[]⟩ : ByteArray).toList) = decide (s.size = 0) := by
  rw [Bool.eq_iff_iff, beq_iff_eq, decide_eq_true_eq]
  have : ∀ a : ByteArray, a.toList = a.data.toList := fun a => ByteArray.toList_eq a
  rw [this, this]
  have h2 : s.size = s.data.toList.length := by rw [Array.length_toList]; rfl
  rw [h2, List.length_eq_zero_iff]
theorem isName_run (s : ByteArray) (hs : s.size ≤ 2000000) (H0 : List AObj) :
    ARun Try.prog 82 [aStr s] H0 (.ret (.b (nameB s)) H0) := by
  have u1 := fun H0 => isKey_run s H0
  have he := empty_iff s
  have hz := bytesZ_len s
  have hm : s.size ≤ maxLen := Nat.le_trans hs (by decide)
  by_cases h0 : s.size = 0
  · rw [decide_eq_true h0] at he
    have hn : nameB s = false := by unfold nameB; rw [h0]; simp
    rw [hn]
    (refine ARun.intro Try.func82 rfl Try.call82 Try.ntmps82 Try.results82 ?_; simp only [List.length_cons, List.length_nil, List.length_map, Nat.reduceAdd, Nat.reduceSub, List.replicate_succ, List.replicate_zero, List.cons_append, List.nil_append])
    (have ww1 := he; refine wk ?_; clear ww1; (repeat' first | exact True.intro | refine Lf.mk ?_ ?_); all_goals intro hP)
    (refine resX ?_; try exact True.intro)
  rw [decide_eq_false h0] at he
  by_cases h12 : 12 < s.size
  · have hn : nameB s = false := by unfold nameB; rw [show decide (s.size ≤ 12) = false from decide_eq_false (by omega)]; simp
    rw [hn]
    (refine ARun.intro Try.func82 rfl Try.call82 Try.ntmps82 Try.results82 ?_; simp only [List.length_cons, List.length_nil, List.length_map, Nat.reduceAdd, Nat.reduceSub, List.replicate_succ, List.replicate_zero, List.cons_append, List.nil_append])
    (have ww1 := he; refine wkO ?_; clear ww1; (repeat' first | exact True.intro | refine Lf.mk ?_ ?_); all_goals intro hP)
    (refine resX ?_; try exact True.intro)
  cases hk : keyB s with
  | true =>
    have hn : nameB s = false := by unfold nameB; rw [hk]; simp
    rw [hn]
    rw [hk] at u1
    (refine ARun.intro Try.func82 rfl Try.call82 Try.ntmps82 Try.results82 ?_; simp only [List.length_cons, List.length_nil, List.length_map, Nat.reduceAdd, Nat.reduceSub, List.replicate_succ, List.replicate_zero, List.cons_append, List.nil_append])
    (have ww1 := he; have cc1 := fun z1 => u1 z1; refine wkO ?_; clear ww1 cc1; (repeat' first | exact True.intro | refine Lf.mk ?_ ?_); all_goals intro hP)
    (refine resX ?_; try exact True.intro)
  | false =>
  have hn : nameB s = charsS (bytesZ s) 0 := by unfold nameB; rw [hk, decide_eq_true (show s.size ≤ 12 by omega), decide_eq_true (show 1 ≤ s.size by omega)]; simp
  rw [hn]
  rw [hk] at u1
  clear hn
  (refine ARun.intro Try.func82 rfl Try.call82 Try.ntmps82 Try.results82 ?_; simp only [List.length_cons, List.length_nil, List.length_map, Nat.reduceAdd, Nat.reduceSub, List.replicate_succ, List.replicate_zero, List.cons_append, List.nil_append])
  (have ww1 := he; have ww2 := hm; have cc1 := fun z1 => u1 z1; refine wkO ?_; clear ww1 ww2 cc1; (repeat' first | exact True.intro | refine Lf.mk ?_ ?_); all_goals intro hP)
  refine awp_loop_ind (σ := Nat) (fun k => s.size - k) (fun k => k ≤ s.size ∧ charsS (bytesZ s) 0 = charsS ((bytesZ s).drop k) k)
    (fun k => (aStr s :: .any :: .any :: .any :: .any :: .any :: .any :: .any :: .any :: .any :: .any :: .any :: .any :: .any :: .any :: .any :: .any :: .any :: .pv (.rs 1 (rowsZ (bytesZ s))) :: .i (bytesZ s).length :: .i k :: .any :: .any :: .any :: .any :: .any :: .any :: .any :: .any :: .any :: .any :: .any :: .any :: .any :: .any :: .any :: .any :: .any :: .any :: .any :: .any :: .any :: .any :: .any :: .any :: .any :: .any :: .any :: .any :: .any :: [])) (fun k => H0) 0 ⟨Nat.zero_le _, by simp⟩ (by (refine fgtX ?_; try exact True.intro)) ?_
  rintro k ⟨k1, k2⟩
  have hw : IntKind.i64.wrap ((k : Int) + 1) = ((k + 1 : Nat) : Int) := by rw [wrap_of (by omega) (by omega)]; omega
  by_cases hkk : k = s.size
  · subst hkk
    rw [List.drop_eq_nil_of_le (by rw [bytesZ_len]; exact Nat.le_refl _)] at k2
    rw [k2, show charsS [] s.size = true from rfl]
    clear k2
    (refine wkO ?_; (repeat' first | exact True.intro | refine Lf.mk ?_ ?_); all_goals intro hP)
    (refine resX ?_; try exact True.intro)
  · have hlt : k < s.size := by omega
    have hlz : k < (bytesZ s).length := by rw [bytesZ_len]; exact hlt
    have hd : (bytesZ s).drop k = (bytesZ s).getD k 0 :: (bytesZ s).drop (k + 1) := by
      rw [List.drop_eq_getElem_cons hlz, List.getD_eq_getElem?_getD, List.getElem?_eq_getElem hlz]; rfl
    have hg : (bytesZ s)[k]? = some ((bytesZ s).getD k 0) := by rw [List.getD_eq_getElem?_getD, List.getElem?_eq_getElem hlz]; rfl
    have hb := bytes_nn (getD_mem hlz)
    rw [hd] at k2
    simp only [charsS] at k2
    generalize (bytesZ s).getD k 0 = c at k2 hg hb
    (have ww1 := hw; have ww2 := hg; have ww3 := hlz; have ww4 := @bytesZ_len; refine wkO ?_; clear ww1 ww2 ww3 ww4; (repeat' first | exact True.intro | refine Lf.mk ?_ ?_); all_goals intro hP)
    all_goals first
      | (refine ⟨k + 1, by omega, ⟨by omega, ?_⟩, by (refine fgtX ?_; try exact True.intro)⟩; rw [k2, show charS k c = true from (charS_iff _ _).2 (by omega), Bool.true_and]; done)
      | ((refine resX ?_; try exact True.intro); rw [k2, show charS k c = false from Bool.eq_false_iff.2 (fun h => by have := (charS_iff _ _).1 h; omega), Bool.false_and]; done)
end Go.Proofs.Ytiifbdkedainnaa.Y

set_option maxHeartbeats 8000000
set_option maxRecDepth 100000
set_option linter.unusedVariables false
set_option linter.unusedSimpArgs false
set_option linter.unusedSectionVars false
namespace Go.Proofs.Ytiifbdkedainnaa.Y
open Go.Proofs.Ytiifbdkedainnaa.AL Go.Proofs Go
attribute [local irreducible] AWP AWL AWG AWR AWE AWX AWO AWSeq AWSG AWSR AWSO AWSE AWSF GoodP OGW OGR OGE OGX PGW PGR PGE Wk AWLoop AWPD AWLD

/-! The one tree that a name is checked in. -/
abbrev bE : ByteArray := ⟨#[]⟩
abbrev bA : ByteArray := ⟨#[97]⟩
abbrev nd (k : Int) (s : ByteArray) (kids : List (List PV)) : List PV := [.i k, .sc (.string s), .i 0, .i 0, .i 0, .rs 6 kids]
theorem emptyE : ((⟨#[]⟩ : ByteArray).toList == (⟨#[]⟩ : ByteArray).toList) = true := by simp
theorem has1_run (k : Int) (s : ByteArray) (kids : List (List PV)) (H0 : List AObj) :
    ARun Try.prog 68 [.ag (nd k s kids), .b true, .b false, .b false] H0 (.ret (.b true) H0) := by
  (refine ARun.intro Try.func68 rfl Try.call68 Try.ntmps68 Try.results68 ?_; simp only [List.length_cons, List.length_nil, List.length_map, Nat.reduceAdd, Nat.reduceSub, List.replicate_succ, List.replicate_zero, List.cons_append, List.nil_append])
  (refine wk ?_; (repeat' first | exact True.intro | refine Lf.mk ?_ ?_); all_goals intro hP)
  (refine resX ?_; try exact True.intro)
theorem has2_run (k : Int) (kids : List (List PV)) (H0 : List AObj) :
    ARun Try.prog 68 [.ag (nd k bE kids), .b false, .b false, .b false] H0 (.ret (.b true) H0) := by
  have he := emptyE
  (refine ARun.intro Try.func68 rfl Try.call68 Try.ntmps68 Try.results68 ?_; simp only [List.length_cons, List.length_nil, List.length_map, Nat.reduceAdd, Nat.reduceSub, List.replicate_succ, List.replicate_zero, List.cons_append, List.nil_append])
  (have ww1 := he; refine wk ?_; clear ww1; (repeat' first | exact True.intro | refine Lf.mk ?_ ?_); all_goals intro hP)
  (refine resX ?_; try exact True.intro)
theorem has3_run (k : Int) (kids : List (List PV)) (H0 : List AObj) :
    ARun Try.prog 68 [.ag (nd k bE kids), .b false, .b true, .b true] H0 (.ret (.b true) H0) := by
  have he := emptyE
  (refine ARun.intro Try.func68 rfl Try.call68 Try.ntmps68 Try.results68 ?_; simp only [List.length_cons, List.length_nil, List.length_map, Nat.reduceAdd, Nat.reduceSub, List.replicate_succ, List.replicate_zero, List.cons_append, List.nil_append])
  (have ww1 := he; refine wk ?_; clear ww1; (repeat' first | exact True.intro | refine Lf.mk ?_ ?_); all_goals intro hP)
  (refine resX ?_; try exact True.intro)
theorem nameA : nameB bA = true := by
  simp [nameB, charsS, bytesZ, charS, keyB, inB, wUnits, wEvents, wPolicies, wInputs, wOthers, eqB, ByteArray.toList_eq, ByteArray.size]
theorem isNamed_run (H0 : List AObj) : ARun Try.prog 85 [.ag (nd 14 bA [])] H0 (.ret (.b true) H0) := by
  have h1 := fun H0 => has1_run 14 bA [] H0
  have h2 := fun H0 => isName_run bA (by decide) H0
  rw [nameA] at h2
  (refine ARun.intro Try.func85 rfl Try.call85 Try.ntmps85 Try.results85 ?_; simp only [List.length_cons, List.length_nil, List.length_map, Nat.reduceAdd, Nat.reduceSub, List.replicate_succ, List.replicate_zero, List.cons_append, List.nil_append])
  (have cc1 := fun z1 => h1 z1; have cc2 := fun z1 => h2 z1; refine wk ?_; clear cc1 cc2; (repeat' first | exact True.intro | refine Lf.mk ?_ ?_); all_goals intro hP)
  (refine resX ?_; try exact True.intro)
theorem isNumber_run (H0 : List AObj) : ARun Try.prog 93 [.ag (nd 13 bE [])] H0 (.ret (.b true) H0) := by
  have h1 := fun H0 => has3_run 13 [] H0
  (refine ARun.intro Try.func93 rfl Try.call93 Try.ntmps93 Try.results93 ?_; simp only [List.length_cons, List.length_nil, List.length_map, Nat.reduceAdd, Nat.reduceSub, List.replicate_succ, List.replicate_zero, List.cons_append, List.nil_append])
  (have cc1 := fun z1 => h1 z1; refine wk ?_; clear cc1; (repeat' first | exact True.intro | refine Lf.mk ?_ ?_); all_goals intro hP)
  (refine resX ?_; try exact True.intro)
theorem isPlain_run (H0 : List AObj) : ARun Try.prog 83 [.ag (nd 13 bE [])] H0 (.ret (.b true) H0) := by
  have h1 := fun H0 => isNumber_run H0
  (refine ARun.intro Try.func83 rfl Try.call83 Try.ntmps83 Try.results83 ?_; simp only [List.length_cons, List.length_nil, List.length_map, Nat.reduceAdd, Nat.reduceSub, List.replicate_succ, List.replicate_zero, List.cons_append, List.nil_append])
  (have cc1 := fun z1 => h1 z1; refine wk ?_; clear cc1; (repeat' first | exact True.intro | refine Lf.mk ?_ ?_); all_goals intro hP)
  (refine resX ?_; try exact True.intro)
theorem ncount0_run (k : Int) (s : ByteArray) (m : Int) (H0 : List AObj) : ARun Try.prog 69 [.ag (nd k s []), .i m] H0 (.ret (.i 1) H0) := by
  (refine ARun.intro Try.func69 rfl Try.call69 Try.ntmps69 Try.results69 ?_; simp only [List.length_cons, List.length_nil, List.length_map, Nat.reduceAdd, Nat.reduceSub, List.replicate_succ, List.replicate_zero, List.cons_append, List.nil_append])
  (refine wk ?_; (repeat' first | exact True.intro | refine Lf.mk ?_ ?_); all_goals intro hP)
  refine awp_loop 1 ?_
  (refine wk ?_; (repeat' first | exact True.intro | refine Lf.mk ?_ ?_); all_goals intro hP)
  (refine resX ?_; try exact True.intro)
theorem ncount2_run (s : ByteArray) (H0 : List AObj) : ARun Try.prog 69 [.ag (nd 4 s [nd 14 bA [], nd 13 bE []]), .i 2499] H0 (.ret (.i 3) H0) := by
  have h1 := fun m H0 => ncount0_run 14 bA m H0
  have h2 := fun m H0 => ncount0_run 13 bE m H0
  (refine ARun.intro Try.func69 rfl Try.call69 Try.ntmps69 Try.results69 ?_; simp only [List.length_cons, List.length_nil, List.length_map, Nat.reduceAdd, Nat.reduceSub, List.replicate_succ, List.replicate_zero, List.cons_append, List.nil_append])
  (refine wk ?_; (repeat' first | exact True.intro | refine Lf.mk ?_ ?_); all_goals intro hP)
  refine awp_loop 3 ?_
  (have cc1 := fun z1 z2 => h1 z1 z2; have cc2 := fun z1 z2 => h2 z1 z2; refine wk ?_; clear cc1 cc2; (repeat' first | exact True.intro | refine Lf.mk ?_ ?_); all_goals intro hP)
  (refine resX ?_; try exact True.intro)
theorem ncount1_run (s : ByteArray) (H0 : List AObj) : ARun Try.prog 69 [.ag (nd 1 bE [nd 4 s [nd 14 bA [], nd 13 bE []]]), .i 2500] H0 (.ret (.i 4) H0) := by
  have h1 := fun H0 => ncount2_run s H0
  (refine ARun.intro Try.func69 rfl Try.call69 Try.ntmps69 Try.results69 ?_; simp only [List.length_cons, List.length_nil, List.length_map, Nat.reduceAdd, Nat.reduceSub, List.replicate_succ, List.replicate_zero, List.cons_append, List.nil_append])
  (refine wk ?_; (repeat' first | exact True.intro | refine Lf.mk ?_ ?_); all_goals intro hP)
  refine awp_loop 2 ?_
  (have cc1 := fun z1 => h1 z1; refine wk ?_; clear cc1; (repeat' first | exact True.intro | refine Lf.mk ?_ ?_); all_goals intro hP)
  (refine resX ?_; try exact True.intro)
end Go.Proofs.Ytiifbdkedainnaa.Y

set_option maxHeartbeats 8000000
set_option maxRecDepth 100000
set_option linter.unusedVariables false
set_option linter.unusedSimpArgs false
set_option linter.unusedSectionVars false
namespace Go.Proofs.Ytiifbdkedainnaa.Y
open Go.Proofs.Ytiifbdkedainnaa.AL Go.Proofs Go
attribute [local irreducible] AWP AWL AWG AWR AWE AWX AWO AWSeq AWSG AWSR AWSO AWSE AWSF GoodP OGW OGR OGE OGX PGW PGR PGE Wk AWLoop AWPD AWLD
theorem dr71_9_X20h : Drawn Try.prog 9 (regOps 9 ((Try.f71.body).getD .skip)) [5, 23, 29] [] [.win [0], .win [0], .win [0], .win [0], .win [0], .eff 0, .win [1], .win [1], .win [1], .win [1], .win [1], .win [1], .win [1], .win [1], .win [1], .win [1], .win [1], .win [1], .win [1, 2], .win [1, 2], .win [1, 2], .win [1], .win [1], .eff 1, .win [2], .win [2], .win [2], .win [2], .win [2], .eff 2, .win [3], .win [3]] 3 [] := ⟨rfl, by as_aux_lemma => kernel_rfl⟩

theorem nall1_run (F : FuncId) (k : Int) (s : ByteArray) (kids : List (List PV)) (b : Bool) (h : ∀ H0, ARun Try.prog F [.ag (nd k s kids)] H0 (.ret (.b b) H0)) (id : Nat) (H0 : List AObj)
    (hc : H0[id]? = some (.cells 99 [.fn (.func F) [] []])) :
    ARun Try.prog 81 [.ag (nd k s kids), .p id 0] H0 (.ret (.b (!b)) H0) := by
  have hc2 : ∀ X, (H0 ++ [X])[id]? = some (.cells 99 [.fn (.func F) [] []]) := by
    intro X
    rw [List.getElem?_append_left (List.getElem?_eq_some_iff.1 hc).1, hc]
  (refine ARun.intro Try.func81 rfl Try.call81 Try.ntmps81 Try.results81 ?_; simp only [List.length_cons, List.length_nil, List.length_map, Nat.reduceAdd, Nat.reduceSub, List.replicate_succ, List.replicate_zero, List.cons_append, List.nil_append])
  (have ww1 := hc2; have ww2 := hc; have cc1 := fun z1 => h z1; refine wkS ?_; clear ww1 ww2 cc1; (repeat' first | exact True.intro | refine Lf.mk ?_ ?_); all_goals intro hP)
  (refine resX ?_; try exact True.intro)
theorem nindex_run (k : Int) (s : ByteArray) (kids : List (List PV)) (b : Bool) (id : Nat) (H0 : List AObj)
    (h : ARun Try.prog 81 [.ag (nd k s kids), .p id 0] H0 (.ret (.b b) H0)) :
    ARun Try.prog 91 [.rs 6 [nd k s kids], .fn (.func 81) [] [.p id 0]] H0 (.ret (.i (if b then 0 else -1)) H0) := by
  cases b with
  | true =>
    (refine ARun.intro Try.func91 rfl Try.call91 Try.ntmps91 Try.results91 ?_; simp only [List.length_cons, List.length_nil, List.length_map, Nat.reduceAdd, Nat.reduceSub, List.replicate_succ, List.replicate_zero, List.cons_append, List.nil_append])
    (refine wk ?_; (repeat' first | exact True.intro | refine Lf.mk ?_ ?_); all_goals intro hP)
    refine awp_loop 1 ?_
    (have cc1 := h; refine wk ?_; clear cc1; (repeat' first | exact True.intro | refine Lf.mk ?_ ?_); all_goals intro hP)
    (refine resX ?_; try exact True.intro)
  | false =>
    (refine ARun.intro Try.func91 rfl Try.call91 Try.ntmps91 Try.results91 ?_; simp only [List.length_cons, List.length_nil, List.length_map, Nat.reduceAdd, Nat.reduceSub, List.replicate_succ, List.replicate_zero, List.cons_append, List.nil_append])
    (refine wk ?_; (repeat' first | exact True.intro | refine Lf.mk ?_ ?_); all_goals intro hP)
    refine awp_loop 2 ?_
    (have cc1 := h; refine wk ?_; clear cc1; (repeat' first | exact True.intro | refine Lf.mk ?_ ?_); all_goals intro hP)
    (refine resX ?_; try exact True.intro)
theorem ncontains_run (k : Int) (s : ByteArray) (kids : List (List PV)) (b : Bool) (id : Nat) (H0 : List AObj)
    (h : ARun Try.prog 81 [.ag (nd k s kids), .p id 0] H0 (.ret (.b b) H0)) :
    ARun Try.prog 80 [.rs 6 [nd k s kids], .fn (.func 81) [] [.p id 0]] H0 (.ret (.b b) H0) := by
  have h1 := nindex_run k s kids b id H0 h
  cases b with
  | true =>
    simp only [if_true] at h1
    (refine ARun.intro Try.func80 rfl Try.call80 Try.ntmps80 Try.results80 ?_; simp only [List.length_cons, List.length_nil, List.length_map, Nat.reduceAdd, Nat.reduceSub, List.replicate_succ, List.replicate_zero, List.cons_append, List.nil_append])
    (have cc1 := h1; refine wk ?_; clear cc1; (repeat' first | exact True.intro | refine Lf.mk ?_ ?_); all_goals intro hP)
    (refine resX ?_; try exact True.intro)
  | false =>
    simp only [if_false, Bool.false_eq_true] at h1
    (refine ARun.intro Try.func80 rfl Try.call80 Try.ntmps80 Try.results80 ?_; simp only [List.length_cons, List.length_nil, List.length_map, Nat.reduceAdd, Nat.reduceSub, List.replicate_succ, List.replicate_zero, List.cons_append, List.nil_append])
    (have cc1 := h1; refine wk ?_; clear cc1; (repeat' first | exact True.intro | refine Lf.mk ?_ ?_); all_goals intro hP)
    (refine resX ?_; try exact True.intro)
theorem nall_run (F : FuncId) (k : Int) (s : ByteArray) (kids : List (List PV)) (b : Bool) (h : ∀ H0, ARun Try.prog F [.ag (nd k s kids)] H0 (.ret (.b b) H0)) (H0 : List AObj) :
    ARun Try.prog 70 [.rs 6 [nd k s kids], .fn (.func F) [] []] H0 (.ret (.b b) H0) := by
  have h1 := ncontains_run k s kids (!b) H0.length _ (nall1_run F k s kids b h H0.length (H0 ++ [.cells 99 [.fn (.func F) [] []]]) (by simp))
  cases b with
  | true =>
    simp only [Bool.not_true] at h1
    (refine ARun.intro Try.func70 rfl Try.call70 Try.ntmps70 Try.results70 ?_; simp only [List.length_cons, List.length_nil, List.length_map, Nat.reduceAdd, Nat.reduceSub, List.replicate_succ, List.replicate_zero, List.cons_append, List.nil_append])
    (have cc1 := h1; refine wk ?_; clear cc1; (repeat' first | exact True.intro | refine Lf.mk ?_ ?_); all_goals intro hP)
    (refine resX ?_; try exact True.intro)
  | false =>
    simp only [Bool.not_false] at h1
    (refine ARun.intro Try.func70 rfl Try.call70 Try.ntmps70 Try.results70 ?_; simp only [List.length_cons, List.length_nil, List.length_map, Nat.reduceAdd, Nat.reduceSub, List.replicate_succ, List.replicate_zero, List.cons_append, List.nil_append])
    (have cc1 := h1; refine wk ?_; clear cc1; (repeat' first | exact True.intro | refine Lf.mk ?_ ?_); all_goals intro hP)
    (refine resX ?_; try exact True.intro)
theorem isItem_run (s : ByteArray) (hs : s.size ≤ 2000000) (H0 : List AObj) :
    ARun Try.prog 71 [.ag (nd 4 s [nd 14 bA [], nd 13 bE []])] H0 (.ret (.b (nameB s)) H0) := by
  have q01 : ((0 : Int) ≤ 1) = True := by simp
  have q12 : ((1 : Int) ≤ 2) = True := by simp
  have q02 : ((0 : Int) ≤ 2) = True := by simp
  have q22 : ((2 : Int) ≤ 2) = True := by simp
  have qt1 : Int.toNat 1 = 1 := rfl
  have h1 := fun H0 => has1_run 4 s [nd 14 bA [], nd 13 bE []] H0
  have h2 := fun H0 => isName_run s hs H0
  have h3 := fun H0 => nall_run _ 14 bA [] true (fun H0 => isNamed_run H0) H0
  have h4 := fun H0 => nall_run _ 13 bE [] true (fun H0 => isPlain_run H0) H0
  cases hnm : nameB s with
  | true =>
    rw [hnm] at h2
    (refine ARun.intro Try.func71 rfl Try.call71 Try.ntmps71 Try.results71 ?_; simp only [List.length_cons, List.length_nil, List.length_map, Nat.reduceAdd, Nat.reduceSub, List.replicate_succ, List.replicate_zero, List.cons_append, List.nil_append])
    (have rr1 := dr71_9_X20h; have cc1 := fun z1 => h1 z1; have cc2 := fun z1 => h2 z1; have cc3 := fun z1 => h3 z1; have cc4 := fun z1 => h4 z1; refine wkS ?_; clear rr1 cc1 cc2 cc3 cc4; (repeat' first | exact True.intro | refine Lf.mk ?_ ?_); all_goals intro hP)
    (refine resX ?_; try exact True.intro)
  | false =>
    rw [hnm] at h2
    (refine ARun.intro Try.func71 rfl Try.call71 Try.ntmps71 Try.results71 ?_; simp only [List.length_cons, List.length_nil, List.length_map, Nat.reduceAdd, Nat.reduceSub, List.replicate_succ, List.replicate_zero, List.cons_append, List.nil_append])
    (have rr1 := dr71_9_X20h; have cc1 := fun z1 => h1 z1; have cc2 := fun z1 => h2 z1; have cc3 := fun z1 => h3 z1; have cc4 := fun z1 => h4 z1; refine wkS ?_; clear rr1 cc1 cc2 cc3 cc4; (repeat' first | exact True.intro | refine Lf.mk ?_ ?_); all_goals intro hP)
    (refine resX ?_; try exact True.intro)
theorem PValid_run (s : ByteArray) (hs : s.size ≤ 2000000) (H0 : List AObj) :
    ARun Try.prog 60 [.ag (nd 1 bE [nd 4 s [nd 14 bA [], nd 13 bE []]])] H0 (.ret (.b (nameB s)) H0) := by
  have h1 := fun H0 => has2_run 1 [nd 4 s [nd 14 bA [], nd 13 bE []]] H0
  have h2 := fun H0 => ncount1_run s H0
  have h3 := fun H0 => nall_run _ 4 s [nd 14 bA [], nd 13 bE []] (nameB s) (fun H0 => isItem_run s hs H0) H0
  (refine ARun.intro Try.func60 rfl Try.call60 Try.ntmps60 Try.results60 ?_; simp only [List.length_cons, List.length_nil, List.length_map, Nat.reduceAdd, Nat.reduceSub, List.replicate_succ, List.replicate_zero, List.cons_append, List.nil_append])
  (have cc1 := fun z1 => h1 z1; have cc2 := fun z1 => h2 z1; have cc3 := fun z1 => h3 z1; refine wk ?_; clear cc1 cc2 cc3; (repeat' first | exact True.intro | refine Lf.mk ?_ ?_); all_goals intro hP)
  (refine resX ?_; try exact True.intro)
theorem nameC_run (s : ByteArray) (hs : s.size ≤ 2000000) (H0 : List AObj) :
    ARun Try.prog 41 [aStr s] H0 (.ret (.b (nameB s)) H0) := by
  have h1 := PValid_run s hs []
  (refine ARun.intro Try.func41 rfl Try.call41 Try.ntmps41 Try.results41 ?_; simp only [List.length_cons, List.length_nil, List.length_map, Nat.reduceAdd, Nat.reduceSub, List.replicate_succ, List.replicate_zero, List.cons_append, List.nil_append])
  (have dd1 := h1; refine wk ?_; clear dd1; (repeat' first | exact True.intro | refine Lf.mk ?_ ?_); all_goals intro hP)
  (refine resX ?_; try exact True.intro)
end Go.Proofs.Ytiifbdkedainnaa.Y

set_option maxHeartbeats 8000000
set_option linter.unusedVariables false
set_option linter.unusedSimpArgs false
namespace Go.Proofs.Ytiifbdkedainnaa.Y
open Go.Proofs.Ytiifbdkedainnaa.AL Go.Proofs Go
attribute [local irreducible] AWP AWL AWG AWR AWE AWX AWO AWSeq AWSG AWSR AWSO AWSE AWSF GoodP OGW OGR OGE OGX PGW PGR PGE Wk AWLoop AWPD AWLD

theorem ksL_get : ∀ {l : List Vr} {us : List Un}, ksL l = some us → ∀ i : Nat, us[i]? = (l[i]?).bind fun v => ofK v.unit
  | [], us, h, i => by simp only [ksL, Option.some.injEq] at h; subst h; simp
  | v :: vs, us, h, i => by
    simp only [ksL] at h
    split at h
    · cases h
    · rename_i u hu
      split at h
      · cases h
      · rename_i ys hys
        simp only [Option.some.injEq] at h
        subst h
        cases i with
        | zero => simp [hu]
        | succ i => simpa using ksL_get hys i

def leafR (us : List Un) (e : Ex) : Except Int Un := if 0 < e.kids.length then .error 1 else leafS us e.op e.n e.unit
theorem Rleaf_run (l : List Vr) (us : List Un) (hks : ksL l = some us) (e : Ex) (H0 : List AObj) : ARun Try.prog 97 [.rs 5 (l.map encV), .ag (cE e)] H0 (.ret (ansU (leafR us e)) H0) := by
  have hg := ksL_get hks
  unfold leafR
  by_cases hk : 0 < e.kids.length
  · have hk' : (0 : Int) < e.kids.length := by omega
    simp only [hk, if_true]
    (refine ARun.intro Try.func97 rfl Try.call97 Try.ntmps97 Try.results97 ?_; simp only [List.length_cons, List.length_nil, List.length_map, Nat.reduceAdd, Nat.reduceSub, List.replicate_succ, List.replicate_zero, List.cons_append, List.nil_append])
    (have ww1 := hk'; refine wk ?_; clear ww1; (repeat' first | exact True.intro | refine Lf.mk ?_ ?_); all_goals intro hP)
    (refine resX ?_; try exact True.intro)
  · have hk' : ¬ (0 : Int) < e.kids.length := by omega
    simp only [hk, if_false]
    by_cases h1 : e.op = 1
    · by_cases hq : 0 ≤ e.n ∧ e.n ≤ 1000000000
      · obtain ⟨hn1, hn2⟩ := hq
        cases hku : ofK e.unit with
        | none =>
          (refine ARun.intro Try.func97 rfl Try.call97 Try.ntmps97 Try.results97 ?_; simp only [List.length_cons, List.length_nil, List.length_map, Nat.reduceAdd, Nat.reduceSub, List.replicate_succ, List.replicate_zero, List.cons_append, List.nil_append])
          (have ww1 := hk'; have ww2 := h1; have ww3 := hn1; have ww4 := hn2; have ww5 := @ofA.eq_1; have ww6 := hku; have cc1 := fun z1 z2 => ROf_run z1 z2; refine wk ?_; clear ww1 ww2 ww3 ww4 ww5 ww6 cc1; (repeat' first | exact True.intro | refine Lf.mk ?_ ?_); all_goals intro hP)
          (refine resX ?_; try exact True.intro)
          simp [leafS, h1, hn1, hn2, hku, ansU]
        | some u =>
          (refine ARun.intro Try.func97 rfl Try.call97 Try.ntmps97 Try.results97 ?_; simp only [List.length_cons, List.length_nil, List.length_map, Nat.reduceAdd, Nat.reduceSub, List.replicate_succ, List.replicate_zero, List.cons_append, List.nil_append])
          (have ww1 := hk'; have ww2 := h1; have ww3 := hn1; have ww4 := hn2; have ww5 := @ofA.eq_1; have ww6 := hku; have cc1 := fun z1 z2 => ROf_run z1 z2; refine wk ?_; clear ww1 ww2 ww3 ww4 ww5 ww6 cc1; (repeat' first | exact True.intro | refine Lf.mk ?_ ?_); all_goals intro hP)
          (refine resX ?_; try exact True.intro)
          simp [leafS, h1, hn1, hn2, hku, ansU]
      · (refine ARun.intro Try.func97 rfl Try.call97 Try.ntmps97 Try.results97 ?_; simp only [List.length_cons, List.length_nil, List.length_map, Nat.reduceAdd, Nat.reduceSub, List.replicate_succ, List.replicate_zero, List.cons_append, List.nil_append])
        have hof : ofA (-1) = .tup [.ag [.i 0, .i 0, .i 0], .i 9] := rfl
        repeat' (first | refine awp_seq ?_ | refine awp_block ?_ | refine awp_scope ?_ | ((first | refine awp_region_k fun Kn Kp hn hp => ?_ | refine oge_intro (by assumption) ?_ | (show AWE _ _ _ _ _ _ _ _ _; first | refine awe_intro (ROf_run _ _) ?_) | (show AWSF _ _ _ _ _ _ _ _ _ _ _; first | refine awsf_intro (ROf_run _ _) (fun hrun => ?_)) | (show OGE _ _ _ _ _ _ _; first | refine oge_intro (ROf_run _ _) ?_) | (show AWSE _ _ _ _ _ _ _ _ _ _ _; first | refine awse_intro (ROf_run _ _) (fun hrun => ?_)) | (show PGE _ _ _ _ _; first | refine pge_intro (ROf_run _ _) (fun tm' => ?_))) <;> (simp only [go_sem, Nat.reduceAdd, Nat.reduceSub, Nat.reduceMul, Nat.reduceLeDiff, Nat.reduceLT, Nat.reduceEqDiff, Int.reduceToNat, Int.reduceAdd, Int.reduceMul, Int.reduceSub, Int.reduceLT, Int.reduceLE, Int.reduceEq, Int.reduceNeg, Int.reduceBEq, Int.reduceBNe, ↓reduceIte, reduceCtorEq, hk', h1, hof] <;> try simp (disch := omega) only [wrap_of])) | (refine hn _ _ ?_; clear hn hp Kn Kp) | (refine hp _ _ _ ?_; clear hn hp Kn Kp) | (refine awp_cond rfl (fun hb => ?_) (fun hb => ?_) <;> (try simp only [decide_eq_true_eq, decide_eq_false_iff_not, Bool.not_eq_true', Bool.not_eq_false', Bool.true_eq_false, Bool.false_eq_true, beq_iff_eq, bne_iff_ne, bne_eq_false_iff_eq, beq_eq_false_iff_ne, gt_iff_lt, ge_iff_le, Int.reduceEq, Int.reduceNe, Int.reduceLT, Int.reduceLE, ne_eq, not_true_eq_false, not_false_eq_true] at hb)) | ((first | refine awg_split (fun hb => ?_) (fun hb => ?_) | refine awsg_split (fun hb => ?_) (fun hb => ?_)) <;> have hb0 := hb <;> (try simp only [decide_eq_true_eq, decide_eq_false_iff_not, Bool.not_eq_true', Bool.not_eq_false', Bool.true_eq_false, Bool.false_eq_true, beq_iff_eq, bne_iff_ne, bne_eq_false_iff_eq, beq_eq_false_iff_ne, gt_iff_lt, ge_iff_le, Int.reduceEq, Int.reduceNe, Int.reduceLT, Int.reduceLE, ne_eq, not_true_eq_false, not_false_eq_true] at hb0) <;> (try simp only [beq_true, beq_false, Bool.not_eq_true', Bool.not_eq_false'] at hb) <;> (simp only [go_sem, Nat.reduceAdd, Nat.reduceSub, Nat.reduceMul, Nat.reduceLeDiff, Nat.reduceLT, Nat.reduceEqDiff, Int.reduceToNat, Int.reduceAdd, Int.reduceMul, Int.reduceSub, Int.reduceLT, Int.reduceLE, Int.reduceEq, Int.reduceNeg, Int.reduceBEq, Int.reduceBNe, ↓reduceIte, reduceCtorEq, hk', h1, hof, hb, hb0] <;> try simp (disch := omega) only [wrap_of])) | (refine And.intro ?_ ?_) | refine awp_skip ?_ | refine awp_ret ?_ | refine awp_exit ?_ | refine awp_label ?_ | refine awloop_step ?_ | fail)
        all_goals first
          | omega
          | ((refine resX ?_; try exact True.intro)
             simp [leafS, h1, hq, ansU])
    · have h1' : (e.op == 1) = false := by simpa using h1
      by_cases h2 : e.op = 2
      · by_cases hq : 0 ≤ e.n
        · cases hv : l[e.n.toNat]? with
          | none =>
            have hlt : ¬ e.n < l.length := by rw [List.getElem?_eq_none_iff] at hv; omega
            have hu := hg e.n.toNat
            rw [hv] at hu
            have hof : ofA (-1) = .tup [.ag [.i 0, .i 0, .i 0], .i 9] := rfl
            (refine ARun.intro Try.func97 rfl Try.call97 Try.ntmps97 Try.results97 ?_; simp only [List.length_cons, List.length_nil, List.length_map, Nat.reduceAdd, Nat.reduceSub, List.replicate_succ, List.replicate_zero, List.cons_append, List.nil_append])
            (have ww1 := hk'; have ww2 := h2; have ww3 := h1'; have ww4 := hq; have ww5 := hlt; have ww6 := hof; have cc1 := fun z1 z2 => ROf_run z1 z2; refine wk ?_; clear ww1 ww2 ww3 ww4 ww5 ww6 cc1; (repeat' first | exact True.intro | refine Lf.mk ?_ ?_); all_goals intro hP)
            (refine resX ?_; try exact True.intro)
            simp [leafS, h2, hq, hu, ansU]
          | some v =>
            have hlt : e.n < l.length := by have := (List.getElem?_eq_some_iff.1 hv).1; omega
            have hu := hg e.n.toNat
            rw [hv] at hu
            simp only [Option.bind_some] at hu
            cases hku : ofK v.unit with
            | none =>
              (refine ARun.intro Try.func97 rfl Try.call97 Try.ntmps97 Try.results97 ?_; simp only [List.length_cons, List.length_nil, List.length_map, Nat.reduceAdd, Nat.reduceSub, List.replicate_succ, List.replicate_zero, List.cons_append, List.nil_append])
              (have ww1 := hk'; have ww2 := h2; have ww3 := h1'; have ww4 := hq; have ww5 := hlt; have ww6 := hv; have ww7 := @encV_eq; have ww8 := @ofA.eq_1; have ww9 := hku; have cc1 := fun z1 z2 => ROf_run z1 z2; refine wk ?_; clear ww1 ww2 ww3 ww4 ww5 ww6 ww7 ww8 ww9 cc1; (repeat' first | exact True.intro | refine Lf.mk ?_ ?_); all_goals intro hP)
              (refine resX ?_; try exact True.intro)
              simp [leafS, h2, hq, hu, hku, ansU]
            | some u =>
              (refine ARun.intro Try.func97 rfl Try.call97 Try.ntmps97 Try.results97 ?_; simp only [List.length_cons, List.length_nil, List.length_map, Nat.reduceAdd, Nat.reduceSub, List.replicate_succ, List.replicate_zero, List.cons_append, List.nil_append])
              (have ww1 := hk'; have ww2 := h2; have ww3 := h1'; have ww4 := hq; have ww5 := hlt; have ww6 := hv; have ww7 := @encV_eq; have ww8 := @ofA.eq_1; have ww9 := hku; have cc1 := fun z1 z2 => ROf_run z1 z2; refine wk ?_; clear ww1 ww2 ww3 ww4 ww5 ww6 ww7 ww8 ww9 cc1; (repeat' first | exact True.intro | refine Lf.mk ?_ ?_); all_goals intro hP)
              (refine resX ?_; try exact True.intro)
              simp [leafS, h2, hq, hu, hku, ansU]
        · (refine ARun.intro Try.func97 rfl Try.call97 Try.ntmps97 Try.results97 ?_; simp only [List.length_cons, List.length_nil, List.length_map, Nat.reduceAdd, Nat.reduceSub, List.replicate_succ, List.replicate_zero, List.cons_append, List.nil_append])
          have hof : ofA (-1) = .tup [.ag [.i 0, .i 0, .i 0], .i 9] := rfl
          (have ww1 := hk'; have ww2 := h2; have ww3 := h1'; have ww4 := hq; have ww5 := hof; have cc1 := fun z1 z2 => ROf_run z1 z2; refine wk ?_; clear ww1 ww2 ww3 ww4 ww5 cc1; (repeat' first | exact True.intro | refine Lf.mk ?_ ?_); all_goals intro hP)
          (refine resX ?_; try exact True.intro)
          simp [leafS, h2, hq, ansU]
      · have h2' : (e.op == 2) = false := by simpa using h2
        have hof : ofA (-1) = .tup [.ag [.i 0, .i 0, .i 0], .i 9] := rfl
        by_cases h3 : e.op = 3
        · by_cases hq : e.n = 0 ∨ e.n = 1 ∨ e.n = 2 ∨ e.n = 3
          · rcases hq with hc | hc | hc | hc
            all_goals
              simp only [leafS, h3, hc, Int.reduceEq, if_true, if_false, true_or, or_true, or_false, false_or, ansU]
              (refine ARun.intro Try.func97 rfl Try.call97 Try.ntmps97 Try.results97 ?_; simp only [List.length_cons, List.length_nil, List.length_map, Nat.reduceAdd, Nat.reduceSub, List.replicate_succ, List.replicate_zero, List.cons_append, List.nil_append])
              (have ww1 := hk'; have ww2 := h3; have ww3 := hc; have ww4 := @ofA.eq_1; have ww5 := @ofK.eq_1; have cc1 := fun z1 z2 => ROf_run z1 z2; refine wk ?_; clear ww1 ww2 ww3 ww4 ww5 cc1; (repeat' first | exact True.intro | refine Lf.mk ?_ ?_); all_goals intro hP)
              (refine resX ?_; try exact True.intro)
          · have q0 : (e.n == 0) = false := by simp; omega
            have q1 : (e.n == 1) = false := by simp; omega
            have q2 : (e.n == 2) = false := by simp; omega
            have q3 : (e.n == 3) = false := by simp; omega
            (refine ARun.intro Try.func97 rfl Try.call97 Try.ntmps97 Try.results97 ?_; simp only [List.length_cons, List.length_nil, List.length_map, Nat.reduceAdd, Nat.reduceSub, List.replicate_succ, List.replicate_zero, List.cons_append, List.nil_append])
            (have ww1 := hk'; have ww2 := h3; have ww3 := q0; have ww4 := q1; have ww5 := q2; have ww6 := q3; have ww7 := hof; have cc1 := fun z1 z2 => ROf_run z1 z2; refine wk ?_; clear ww1 ww2 ww3 ww4 ww5 ww6 ww7 cc1; (repeat' first | exact True.intro | refine Lf.mk ?_ ?_); all_goals intro hP)
            (refine resX ?_; try exact True.intro)
            simp only [leafS, h3, if_true, Int.reduceEq, if_false]
            rw [if_neg (by omega), if_neg (by omega), if_neg (by omega)]
            rfl
        · have h3' : (e.op == 3) = false := by simpa using h3
          (refine ARun.intro Try.func97 rfl Try.call97 Try.ntmps97 Try.results97 ?_; simp only [List.length_cons, List.length_nil, List.length_map, Nat.reduceAdd, Nat.reduceSub, List.replicate_succ, List.replicate_zero, List.cons_append, List.nil_append])
          (have ww1 := hk'; have ww2 := h1'; have ww3 := h2'; have ww4 := h3'; have ww5 := hof; have cc1 := fun z1 z2 => ROf_run z1 z2; refine wk ?_; clear ww1 ww2 ww3 ww4 ww5 cc1; (repeat' first | exact True.intro | refine Lf.mk ?_ ?_); all_goals intro hP)
          (refine resX ?_; try exact True.intro)
          simp [leafS, h1, h2, h3, ansU]
end Go.Proofs.Ytiifbdkedainnaa.Y

set_option maxHeartbeats 8000000
set_option maxRecDepth 20000
set_option linter.unusedVariables false
set_option linter.unusedSimpArgs false
namespace Go.Proofs.Ytiifbdkedainnaa.Y
open Go.Proofs.Ytiifbdkedainnaa.AL Go.Proofs Go
attribute [local irreducible] AWP AWL AWG AWR AWE AWX AWO AWSeq AWSG AWSR AWSO AWSE AWSF GoodP OGW OGR OGE OGX PGW PGR PGE Wk AWLoop AWPD AWLD

theorem Rleaf0 {l : List Vr} {us : List Un} (hks : ksL l = some us) (e : Ex) (x : Except Int Un) (hx : leafR us e = x) (H0 : List AObj) : ARun Try.prog 97 [.rs 5 (l.map encV), .ag (cE e)] H0 (.ret (ansU x) H0) := by
  subst hx; exact Rleaf_run l us hks e H0
def uz : Un := ⟨0, 0, 0⟩
def u0 (acc : List Un) : Un := acc[0]?.getD uz
def u1 (acc : List Un) : Un := acc[1]?.getD uz
theorem u0_snoc {acc : List Un} {x : Un} : u0 (acc ++ [x]) = if acc.length = 0 then x else u0 acc := by
  cases acc <;> simp [u0]
theorem u1_snoc {acc : List Un} {x : Un} : u1 (acc ++ [x]) = if acc.length = 1 then x else u1 acc := by
  rcases acc with _ | ⟨a, _ | ⟨b, r⟩⟩ <;> simp [u1]
theorem infL_len {us : List Un} : ∀ {l : List Ex} {r : List Un}, infL us l = .ok r → r.length = l.length
  | [], r, h => by simp only [infL, Except.ok.injEq] at h; subst h; rfl
  | e :: es, r, h => by
    simp only [infL] at h
    split at h
    · cases h
    · split at h
      · cases h
      · rename_i ys hys
        simp only [Except.ok.injEq] at h
        subst h
        simp [infL_len hys]
abbrev fitB (n : Int) : Bool := decide (-4 ≤ n ∧ n ≤ 4)
theorem ok_fit (u : Un) : u.ok ↔ (fitB u.p = true ∧ fitB u.b = true ∧ fitB u.t = true) := by
  simp only [Un.ok, fitB, decide_eq_true_eq]; omega

theorem Rexpr_run (l : List Vr) (us : List Un) (hks : ksL l = some us) (e : Ex) : ∀ (H0 : List AObj), ARun Try.prog 90 [.rs 5 (l.map encV), .ag (cE e)] H0 (.ret (ansU (inf us e)) H0) := by
  have hus := ksL_ok hks
  induction e using Ex.ind with
  | h e ih =>
    intro H0
    (refine ARun.intro Try.func90 rfl Try.call90 Try.ntmps90 Try.results90 ?_; simp only [List.length_cons, List.length_nil, List.length_map, Nat.reduceAdd, Nat.reduceSub, List.replicate_succ, List.replicate_zero, List.cons_append, List.nil_append])
    refine awp_len_agg 1 3 rfl rfl fun hlen => ?_
    rw [List.length_map] at hlen
    (refine wk ?_; (repeat' first | exact True.intro | refine Lf.mk ?_ ?_); all_goals intro hP)
    refine awp_loop_ind (σ := Nat × List Un) (fun s => e.kids.length - s.1)
      (fun s => s.2.length = s.1 ∧ s.1 ≤ e.kids.length ∧ (∀ u ∈ s.2, u.ok) ∧ infL us e.kids = match infL us (e.kids.drop s.1) with | .ok r => .ok (s.2 ++ r) | .error x => .error x)
      (fun s => (.rs 5 (l.map encV) :: .any :: .any :: .p H0.length 0 :: .p (H0.length + 1) 0 :: .any :: .p (H0.length + 2) 0 :: .i s.1 :: .any :: .any :: .any :: .any :: .any :: .any :: .any :: .any :: .any :: .any :: .any :: .any :: .any :: .any :: .any :: .any :: .any :: .any :: .any :: .any :: .any :: .any :: .any :: .any :: .any :: .any :: .any :: .any :: .any :: .any :: .any :: .any :: .any :: .any :: .any :: .any :: .any :: .any :: .any :: .any :: .any :: .any :: .any :: .any :: .any :: .any :: .any :: .any :: .any :: .any :: .any :: .any :: .any :: .any :: .any :: .any :: .any :: .any :: .any :: .any :: .any :: .any :: .any :: .any :: .any :: .any :: .any :: .any :: .any :: .any :: .any :: .any :: .any :: .any :: .any :: .any :: .any :: .any :: .any :: .any :: .any :: .any :: .any :: .any :: .any :: .any :: .any :: .any :: .any :: .any :: .any :: .any :: .any :: .any :: .any :: .any :: .any :: .any :: .any :: .any :: .any :: .any :: .any :: .any :: .any :: .any :: .any :: .any :: .any :: .any :: .any :: .any :: .any :: .any :: .any :: .any :: .any :: .any :: .any :: .any :: .any :: .any :: .any :: .any :: .any :: .any :: .any :: .any :: .any :: .any :: .any :: .any :: .any :: .any :: .any :: .any :: .any :: .any :: .any :: .any :: .any :: .any :: .any :: .any :: .any :: []))
      (fun s => H0 ++ [.cells 71 [.i e.op, .i e.n, .i e.unit, .rs 4 (e.kids.map encE)], .cells 107 [.i 0, .i 0, .i 0], .cells 139 [.i (u0 s.2).p, .i (u0 s.2).b, .i (u0 s.2).t, .i (u1 s.2).p, .i (u1 s.2).b, .i (u1 s.2).t]]) (0, [])
      ⟨rfl, Nat.zero_le _, by simp, by simp only [List.drop_zero, List.nil_append]; cases infL us e.kids <;> rfl⟩
      (by (refine fgtX ?_; try exact True.intro)) ?_
    rintro ⟨i, acc⟩ ⟨h1, h2, h3, h4⟩
    simp only at h1 h2 h3 h4 ⊢
    cases hr : e.kids.drop i with
    | nil =>
      have hlt := drop_nil hr
      rw [hr] at h4
      simp only [infL, List.append_nil] at h4
      have hinf : inf us e = node us e.op e.n e.unit acc := by rw [inf_eq, h4]
      have hkl : e.kids.length = acc.length := by
        have := infL_len h4; omega
      rw [hinf]
      by_cases hop : e.op = 1 ∨ e.op = 2 ∨ e.op = 3
      · have hlf : leafR us e = node us e.op e.n e.unit acc := by
          unfold leafR
          rw [hkl]
          rcases acc with _ | ⟨a, _ | ⟨b, _ | ⟨c, rs⟩⟩⟩
          · simp [node]
          · simp [node]
          · simp only [node, List.length_cons, List.length_nil]
            rw [if_pos (by omega), if_neg (by omega)]
          · simp [node]
        have hlf := fun H0 => Rleaf0 hks e _ hlf H0
        have hc3 : (e.op == 1 || e.op == 2 || e.op == 3) = true := by
          rcases hop with h | h | h <;> simp [h]
        cases hnd : node us e.op e.n e.unit acc with
        | ok u =>
          simp only [hnd, ansU] at hlf
          repeat' (first | refine awp_seq ?_ | refine awp_block ?_ | refine awp_scope ?_ | ((first | refine awp_region_k fun Kn Kp hn hp => ?_ | refine oge_intro (by assumption) ?_ | (show AWE _ _ _ _ _ _ _ _ _; first | refine awe_intro (hlf _) ?_) | (show AWSF _ _ _ _ _ _ _ _ _ _ _; first | refine awsf_intro (hlf _) (fun hrun => ?_)) | (show OGE _ _ _ _ _ _ _; first | refine oge_intro (hlf _) ?_) | (show AWSE _ _ _ _ _ _ _ _ _ _ _; first | refine awse_intro (hlf _) (fun hrun => ?_)) | (show PGE _ _ _ _ _; first | refine pge_intro (hlf _) (fun tm' => ?_))) <;> (simp only [go_sem, Nat.reduceAdd, Nat.reduceSub, Nat.reduceMul, Nat.reduceLeDiff, Nat.reduceLT, Nat.reduceEqDiff, Int.reduceToNat, Int.reduceAdd, Int.reduceMul, Int.reduceSub, Int.reduceLT, Int.reduceLE, Int.reduceEq, Int.reduceNeg, Int.reduceBEq, Int.reduceBNe, ↓reduceIte, reduceCtorEq, hlt] <;> try simp (disch := omega) only [wrap_of])) | (refine hn _ _ ?_; clear hn hp Kn Kp) | (refine hp _ _ _ ?_; clear hn hp Kn Kp) | (refine awp_cond rfl (fun hb => ?_) (fun hb => ?_) <;> (try simp only [decide_eq_true_eq, decide_eq_false_iff_not, Bool.not_eq_true', Bool.not_eq_false', Bool.true_eq_false, Bool.false_eq_true, beq_iff_eq, bne_iff_ne, bne_eq_false_iff_eq, beq_eq_false_iff_ne, gt_iff_lt, ge_iff_le, Int.reduceEq, Int.reduceNe, Int.reduceLT, Int.reduceLE, ne_eq, not_true_eq_false, not_false_eq_true] at hb)) | ((first | refine awg_split (fun hb => ?_) (fun hb => ?_) | refine awsg_split (fun hb => ?_) (fun hb => ?_)) <;> have hb0 := hb <;> (try simp only [decide_eq_true_eq, decide_eq_false_iff_not, Bool.not_eq_true', Bool.not_eq_false', Bool.true_eq_false, Bool.false_eq_true, beq_iff_eq, bne_iff_ne, bne_eq_false_iff_eq, beq_eq_false_iff_ne, gt_iff_lt, ge_iff_le, Int.reduceEq, Int.reduceNe, Int.reduceLT, Int.reduceLE, ne_eq, not_true_eq_false, not_false_eq_true] at hb0) <;> (try simp only [beq_true, beq_false, Bool.not_eq_true', Bool.not_eq_false'] at hb) <;> (simp only [go_sem, Nat.reduceAdd, Nat.reduceSub, Nat.reduceMul, Nat.reduceLeDiff, Nat.reduceLT, Nat.reduceEqDiff, Int.reduceToNat, Int.reduceAdd, Int.reduceMul, Int.reduceSub, Int.reduceLT, Int.reduceLE, Int.reduceEq, Int.reduceNeg, Int.reduceBEq, Int.reduceBNe, ↓reduceIte, reduceCtorEq, hlt, hb] <;> try simp (disch := omega) only [wrap_of])) | (refine And.intro ?_ ?_) | refine awp_skip ?_ | refine awp_ret ?_ | refine awp_exit ?_ | refine awp_label ?_ | refine awloop_step ?_ | fail)
          all_goals first
            | omega
            | ((refine resX ?_; try exact True.intro))
        | error x =>
          simp only [hnd, ansU] at hlf
          repeat' (first | refine awp_seq ?_ | refine awp_block ?_ | refine awp_scope ?_ | ((first | refine awp_region_k fun Kn Kp hn hp => ?_ | refine oge_intro (by assumption) ?_ | (show AWE _ _ _ _ _ _ _ _ _; first | refine awe_intro (hlf _) ?_) | (show AWSF _ _ _ _ _ _ _ _ _ _ _; first | refine awsf_intro (hlf _) (fun hrun => ?_)) | (show OGE _ _ _ _ _ _ _; first | refine oge_intro (hlf _) ?_) | (show AWSE _ _ _ _ _ _ _ _ _ _ _; first | refine awse_intro (hlf _) (fun hrun => ?_)) | (show PGE _ _ _ _ _; first | refine pge_intro (hlf _) (fun tm' => ?_))) <;> (simp only [go_sem, Nat.reduceAdd, Nat.reduceSub, Nat.reduceMul, Nat.reduceLeDiff, Nat.reduceLT, Nat.reduceEqDiff, Int.reduceToNat, Int.reduceAdd, Int.reduceMul, Int.reduceSub, Int.reduceLT, Int.reduceLE, Int.reduceEq, Int.reduceNeg, Int.reduceBEq, Int.reduceBNe, ↓reduceIte, reduceCtorEq, hlt] <;> try simp (disch := omega) only [wrap_of])) | (refine hn _ _ ?_; clear hn hp Kn Kp) | (refine hp _ _ _ ?_; clear hn hp Kn Kp) | (refine awp_cond rfl (fun hb => ?_) (fun hb => ?_) <;> (try simp only [decide_eq_true_eq, decide_eq_false_iff_not, Bool.not_eq_true', Bool.not_eq_false', Bool.true_eq_false, Bool.false_eq_true, beq_iff_eq, bne_iff_ne, bne_eq_false_iff_eq, beq_eq_false_iff_ne, gt_iff_lt, ge_iff_le, Int.reduceEq, Int.reduceNe, Int.reduceLT, Int.reduceLE, ne_eq, not_true_eq_false, not_false_eq_true] at hb)) | ((first | refine awg_split (fun hb => ?_) (fun hb => ?_) | refine awsg_split (fun hb => ?_) (fun hb => ?_)) <;> have hb0 := hb <;> (try simp only [decide_eq_true_eq, decide_eq_false_iff_not, Bool.not_eq_true', Bool.not_eq_false', Bool.true_eq_false, Bool.false_eq_true, beq_iff_eq, bne_iff_ne, bne_eq_false_iff_eq, beq_eq_false_iff_ne, gt_iff_lt, ge_iff_le, Int.reduceEq, Int.reduceNe, Int.reduceLT, Int.reduceLE, ne_eq, not_true_eq_false, not_false_eq_true] at hb0) <;> (try simp only [beq_true, beq_false, Bool.not_eq_true', Bool.not_eq_false'] at hb) <;> (simp only [go_sem, Nat.reduceAdd, Nat.reduceSub, Nat.reduceMul, Nat.reduceLeDiff, Nat.reduceLT, Nat.reduceEqDiff, Int.reduceToNat, Int.reduceAdd, Int.reduceMul, Int.reduceSub, Int.reduceLT, Int.reduceLE, Int.reduceEq, Int.reduceNeg, Int.reduceBEq, Int.reduceBNe, ↓reduceIte, reduceCtorEq, hlt, hb] <;> try simp (disch := omega) only [wrap_of])) | (refine And.intro ?_ ?_) | refine awp_skip ?_ | refine awp_ret ?_ | refine awp_exit ?_ | refine awp_label ?_ | refine awloop_step ?_ | fail)
          all_goals first
            | omega
            | ((refine resX ?_; try exact True.intro))
      · have o1 : (e.op == 1) = false := by simp; omega
        have o2 : (e.op == 2) = false := by simp; omega
        have o3 : (e.op == 3) = false := by simp; omega
        by_cases hb2 : acc.length = 2 ∧ 4 ≤ e.op ∧ e.op ≤ 10
        · obtain ⟨ha, ho1, ho2⟩ := hb2
          obtain ⟨a, b, rfl⟩ : ∃ a b, acc = [a, b] := by
            match acc, ha with | [a, b], _ => exact ⟨a, b, rfl⟩
          have hk2 : ((e.kids.length : Int) != 2) = false := by rw [hkl]; rfl
          have g1 : ¬ e.op < 4 := by omega
          have g2 : ¬ 10 < e.op := by omega
          simp only [node, ho1, ho2, and_self, if_true, u0, u1, List.getElem?_cons_zero, List.getElem?_cons_succ, Option.getD_some]
          have oka := h3 a (by simp)
          have okb := h3 b (by simp)
          by_cases h6 : e.op = 6
          · have w1 : IntKind.i64.wrap (a.p + b.p) = a.p + b.p := wrap_of (by have := oka; have := okb; unfold Un.ok at *; omega) (by have := oka; have := okb; unfold Un.ok at *; omega)
            have w2 : IntKind.i64.wrap (a.b + b.b) = a.b + b.b := wrap_of (by have := oka; have := okb; unfold Un.ok at *; omega) (by have := oka; have := okb; unfold Un.ok at *; omega)
            have w3 : IntKind.i64.wrap (a.t + b.t) = a.t + b.t := wrap_of (by have := oka; have := okb; unfold Un.ok at *; omega) (by have := oka; have := okb; unfold Un.ok at *; omega)
            have hf := ok_fit (a.add b 1)
            simp only [Un.add, Int.one_mul] at hf
            simp only [comb, h6, if_true, Un.add, Int.one_mul]
            (have ww1 := hlt; have ww2 := hk2; have ww3 := h6; have ww4 := w1; have ww5 := w2; have ww6 := w3; have cc1 := fun z1 z2 => fits_run z1 z2; refine wk ?_; clear ww1 ww2 ww3 ww4 ww5 ww6 cc1; (repeat' first | exact True.intro | refine Lf.mk ?_ ?_); all_goals intro hP)
            all_goals
              (refine resX ?_; try exact True.intro)
              simp_all [ansU]
          · have h6' : (e.op == 6) = false := by simpa using h6
            by_cases h78 : e.op = 7 ∨ e.op = 8
            · have w1 : IntKind.i64.wrap (a.p - b.p) = a.p - b.p := wrap_of (by have := oka; have := okb; unfold Un.ok at *; omega) (by have := oka; have := okb; unfold Un.ok at *; omega)
              have w2 : IntKind.i64.wrap (a.b - b.b) = a.b - b.b := wrap_of (by have := oka; have := okb; unfold Un.ok at *; omega) (by have := oka; have := okb; unfold Un.ok at *; omega)
              have w3 : IntKind.i64.wrap (a.t - b.t) = a.t - b.t := wrap_of (by have := oka; have := okb; unfold Un.ok at *; omega) (by have := oka; have := okb; unfold Un.ok at *; omega)
              have hf := ok_fit (a.add b (-1))
              have hadd : a.add b (-1) = ⟨a.p - b.p, a.b - b.b, a.t - b.t⟩ := by
                simp only [Un.add, Un.mk.injEq]; omega
              rw [hadd] at hf
              simp only [comb, h6, h78, if_true, if_false]
              rw [hadd]
              repeat' (first | refine awp_seq ?_ | refine awp_block ?_ | refine awp_scope ?_ | ((first | refine awp_region_k fun Kn Kp hn hp => ?_ | refine oge_intro (by assumption) ?_ | (show AWE _ _ _ _ _ _ _ _ _; first | refine awe_intro (fits_run _ _) ?_) | (show AWSF _ _ _ _ _ _ _ _ _ _ _; first | refine awsf_intro (fits_run _ _) (fun hrun => ?_)) | (show OGE _ _ _ _ _ _ _; first | refine oge_intro (fits_run _ _) ?_) | (show AWSE _ _ _ _ _ _ _ _ _ _ _; first | refine awse_intro (fits_run _ _) (fun hrun => ?_)) | (show PGE _ _ _ _ _; first | refine pge_intro (fits_run _ _) (fun tm' => ?_))) <;> (simp only [go_sem, Nat.reduceAdd, Nat.reduceSub, Nat.reduceMul, Nat.reduceLeDiff, Nat.reduceLT, Nat.reduceEqDiff, Int.reduceToNat, Int.reduceAdd, Int.reduceMul, Int.reduceSub, Int.reduceLT, Int.reduceLE, Int.reduceEq, Int.reduceNeg, Int.reduceBEq, Int.reduceBNe, ↓reduceIte, reduceCtorEq, hlt, hk2, g1, g2, o1, o2, o3, h6', w1, w2, w3] <;> try simp (disch := omega) only [wrap_of])) | (refine hn _ _ ?_; clear hn hp Kn Kp) | (refine hp _ _ _ ?_; clear hn hp Kn Kp) | (refine awp_cond rfl (fun hb => ?_) (fun hb => ?_) <;> (try simp only [decide_eq_true_eq, decide_eq_false_iff_not, Bool.not_eq_true', Bool.not_eq_false', Bool.true_eq_false, Bool.false_eq_true, beq_iff_eq, bne_iff_ne, bne_eq_false_iff_eq, beq_eq_false_iff_ne, gt_iff_lt, ge_iff_le, Int.reduceEq, Int.reduceNe, Int.reduceLT, Int.reduceLE, ne_eq, not_true_eq_false, not_false_eq_true] at hb)) | ((first | refine awg_split (fun hb => ?_) (fun hb => ?_) | refine awsg_split (fun hb => ?_) (fun hb => ?_)) <;> have hb0 := hb <;> (try simp only [decide_eq_true_eq, decide_eq_false_iff_not, Bool.not_eq_true', Bool.not_eq_false', Bool.true_eq_false, Bool.false_eq_true, beq_iff_eq, bne_iff_ne, bne_eq_false_iff_eq, beq_eq_false_iff_ne, gt_iff_lt, ge_iff_le, Int.reduceEq, Int.reduceNe, Int.reduceLT, Int.reduceLE, ne_eq, not_true_eq_false, not_false_eq_true] at hb0) <;> (try simp only [beq_true, beq_false, Bool.not_eq_true', Bool.not_eq_false'] at hb) <;> (simp only [go_sem, Nat.reduceAdd, Nat.reduceSub, Nat.reduceMul, Nat.reduceLeDiff, Nat.reduceLT, Nat.reduceEqDiff, Int.reduceToNat, Int.reduceAdd, Int.reduceMul, Int.reduceSub, Int.reduceLT, Int.reduceLE, Int.reduceEq, Int.reduceNeg, Int.reduceBEq, Int.reduceBNe, ↓reduceIte, reduceCtorEq, hlt, hk2, g1, g2, o1, o2, o3, h6', w1, w2, w3, hb, hb0] <;> try simp (disch := omega) only [wrap_of])) | (refine And.intro ?_ ?_) | refine awp_skip ?_ | refine awp_ret ?_ | refine awp_exit ?_ | refine awp_label ?_ | refine awloop_step ?_ | fail)
              all_goals first
                | omega
                | ((refine resX ?_; try exact True.intro)
                   simp_all [ansU])
            · have h7 : (e.op == 7) = false := by simp; omega
              have h8 : (e.op == 8) = false := by simp; omega
              simp only [comb, h6, h78, if_false]
              have hE := eqU a b
              have hoka := (ok_fit a).1 oka
              by_cases hab : a = b
              · rw [decide_eq_true hab] at hE
                repeat' (first | refine awp_seq ?_ | refine awp_block ?_ | refine awp_scope ?_ | ((first | refine awp_region_k fun Kn Kp hn hp => ?_ | refine oge_intro (by assumption) ?_ | (show AWE _ _ _ _ _ _ _ _ _; first | refine awe_intro (fits_run _ _) ?_) | (show AWSF _ _ _ _ _ _ _ _ _ _ _; first | refine awsf_intro (fits_run _ _) (fun hrun => ?_)) | (show OGE _ _ _ _ _ _ _; first | refine oge_intro (fits_run _ _) ?_) | (show AWSE _ _ _ _ _ _ _ _ _ _ _; first | refine awse_intro (fits_run _ _) (fun hrun => ?_)) | (show PGE _ _ _ _ _; first | refine pge_intro (fits_run _ _) (fun tm' => ?_))) <;> (simp only [go_sem, Nat.reduceAdd, Nat.reduceSub, Nat.reduceMul, Nat.reduceLeDiff, Nat.reduceLT, Nat.reduceEqDiff, Int.reduceToNat, Int.reduceAdd, Int.reduceMul, Int.reduceSub, Int.reduceLT, Int.reduceLE, Int.reduceEq, Int.reduceNeg, Int.reduceBEq, Int.reduceBNe, ↓reduceIte, reduceCtorEq, hlt, hk2, g1, g2, o1, o2, o3, h6', h7, h8, eqs34, eqg34, hE, hoka.1, hoka.2.1, hoka.2.2] <;> try simp (disch := omega) only [wrap_of])) | (refine hn _ _ ?_; clear hn hp Kn Kp) | (refine hp _ _ _ ?_; clear hn hp Kn Kp) | (refine awp_cond rfl (fun hb => ?_) (fun hb => ?_) <;> (try simp only [decide_eq_true_eq, decide_eq_false_iff_not, Bool.not_eq_true', Bool.not_eq_false', Bool.true_eq_false, Bool.false_eq_true, beq_iff_eq, bne_iff_ne, bne_eq_false_iff_eq, beq_eq_false_iff_ne, gt_iff_lt, ge_iff_le, Int.reduceEq, Int.reduceNe, Int.reduceLT, Int.reduceLE, ne_eq, not_true_eq_false, not_false_eq_true] at hb)) | ((first | refine awg_split (fun hb => ?_) (fun hb => ?_) | refine awsg_split (fun hb => ?_) (fun hb => ?_)) <;> have hb0 := hb <;> (try simp only [decide_eq_true_eq, decide_eq_false_iff_not, Bool.not_eq_true', Bool.not_eq_false', Bool.true_eq_false, Bool.false_eq_true, beq_iff_eq, bne_iff_ne, bne_eq_false_iff_eq, beq_eq_false_iff_ne, gt_iff_lt, ge_iff_le, Int.reduceEq, Int.reduceNe, Int.reduceLT, Int.reduceLE, ne_eq, not_true_eq_false, not_false_eq_true] at hb0) <;> (try simp only [beq_true, beq_false, Bool.not_eq_true', Bool.not_eq_false'] at hb) <;> (simp only [go_sem, Nat.reduceAdd, Nat.reduceSub, Nat.reduceMul, Nat.reduceLeDiff, Nat.reduceLT, Nat.reduceEqDiff, Int.reduceToNat, Int.reduceAdd, Int.reduceMul, Int.reduceSub, Int.reduceLT, Int.reduceLE, Int.reduceEq, Int.reduceNeg, Int.reduceBEq, Int.reduceBNe, ↓reduceIte, reduceCtorEq, hlt, hk2, g1, g2, o1, o2, o3, h6', h7, h8, eqs34, eqg34, hE, hoka.1, hoka.2.1, hoka.2.2, hb, hb0] <;> try simp (disch := omega) only [wrap_of])) | (refine And.intro ?_ ?_) | refine awp_skip ?_ | refine awp_ret ?_ | refine awp_exit ?_ | refine awp_label ?_ | refine awloop_step ?_ | fail)
                all_goals
                  (refine resX ?_; try exact True.intro)
                  simp [ansU, hab]
              · rw [decide_eq_false hab] at hE
                (have ww1 := hlt; have ww2 := hk2; have ww3 := g1; have ww4 := g2; have ww5 := o1; have ww6 := o2; have ww7 := o3; have ww8 := h6'; have ww9 := h7; have ww10 := h8; have ww11 := @eqs34; have ww12 := @eqg34; have ww13 := hE; have cc1 := fun z1 z2 => fits_run z1 z2; refine wk ?_; clear ww1 ww2 ww3 ww4 ww5 ww6 ww7 ww8 ww9 ww10 ww11 ww12 ww13 cc1; (repeat' first | exact True.intro | refine Lf.mk ?_ ?_); all_goals intro hP)
                all_goals
                  (refine resX ?_; try exact True.intro)
                  simp [ansU, hab]
        · have hnd : node us e.op e.n e.unit acc = .error 1 := by
            rcases acc with _ | ⟨a, _ | ⟨b, _ | ⟨c, rs⟩⟩⟩
            · simp only [node, leafS]
              rw [if_neg (by omega), if_neg (by omega), if_neg (by omega)]
            · simp [node]
            · simp only [node]
              rw [if_neg (by simpa using hb2)]
            · simp [node]
          rw [hnd]
          repeat' (first | refine awp_seq ?_ | refine awp_block ?_ | refine awp_scope ?_ | ((first | refine awp_region_k fun Kn Kp hn hp => ?_ | refine oge_intro (by assumption) ?_) <;> (simp only [go_sem, Nat.reduceAdd, Nat.reduceSub, Nat.reduceMul, Nat.reduceLeDiff, Nat.reduceLT, Nat.reduceEqDiff, Int.reduceToNat, Int.reduceAdd, Int.reduceMul, Int.reduceSub, Int.reduceLT, Int.reduceLE, Int.reduceEq, Int.reduceNeg, Int.reduceBEq, Int.reduceBNe, ↓reduceIte, reduceCtorEq, hlt, o1, o2, o3] <;> try simp (disch := omega) only [wrap_of])) | (refine hn _ _ ?_; clear hn hp Kn Kp) | (refine hp _ _ _ ?_; clear hn hp Kn Kp) | (refine awp_cond rfl (fun hb => ?_) (fun hb => ?_) <;> (try simp only [decide_eq_true_eq, decide_eq_false_iff_not, Bool.not_eq_true', Bool.not_eq_false', Bool.true_eq_false, Bool.false_eq_true, beq_iff_eq, bne_iff_ne, bne_eq_false_iff_eq, beq_eq_false_iff_ne, gt_iff_lt, ge_iff_le, Int.reduceEq, Int.reduceNe, Int.reduceLT, Int.reduceLE, ne_eq, not_true_eq_false, not_false_eq_true] at hb)) | ((first | refine awg_split (fun hb => ?_) (fun hb => ?_) | refine awsg_split (fun hb => ?_) (fun hb => ?_)) <;> have hb0 := hb <;> (try simp only [decide_eq_true_eq, decide_eq_false_iff_not, Bool.not_eq_true', Bool.not_eq_false', Bool.true_eq_false, Bool.false_eq_true, beq_iff_eq, bne_iff_ne, bne_eq_false_iff_eq, beq_eq_false_iff_ne, gt_iff_lt, ge_iff_le, Int.reduceEq, Int.reduceNe, Int.reduceLT, Int.reduceLE, ne_eq, not_true_eq_false, not_false_eq_true] at hb0) <;> (try simp only [beq_true, beq_false, Bool.not_eq_true', Bool.not_eq_false'] at hb) <;> (simp only [go_sem, Nat.reduceAdd, Nat.reduceSub, Nat.reduceMul, Nat.reduceLeDiff, Nat.reduceLT, Nat.reduceEqDiff, Int.reduceToNat, Int.reduceAdd, Int.reduceMul, Int.reduceSub, Int.reduceLT, Int.reduceLE, Int.reduceEq, Int.reduceNeg, Int.reduceBEq, Int.reduceBNe, ↓reduceIte, reduceCtorEq, hlt, o1, o2, o3, hb, hb0] <;> try simp (disch := omega) only [wrap_of])) | (refine And.intro ?_ ?_) | refine awp_skip ?_ | refine awp_ret ?_ | refine awp_exit ?_ | refine awp_label ?_ | refine awloop_step ?_ | fail)
          all_goals first
            | omega
            | ((refine resX ?_; try exact True.intro))
    | cons k rest =>
      obtain ⟨hk, hlt, hd, hm⟩ := drop_cons hr
      rw [hr] at h4
      simp only [infL] at h4
      have hih := fun H0 => ih k hm H0
      cases hik : inf us k with
      | error x =>
        have hx := inf_err us k x hik
        have hx0 : (x != 0) = true := by simp; omega
        simp only [hik] at h4
        have hinf : inf us e = .error x := by rw [inf_eq, h4]
        rw [hinf]
        simp only [hik, ansU] at hih
        (have ww1 := hlt; have ww2 := hk; have ww3 := @encE_eq; have ww4 := hx0; have cc1 := fun z1 => hih z1; refine wk ?_; clear ww1 ww2 ww3 ww4 cc1; (repeat' first | exact True.intro | refine Lf.mk ?_ ?_); all_goals intro hP)
        (refine resX ?_; try exact True.intro)
        all_goals simp [ansU]
      | ok u =>
        simp only [hik] at h4
        simp only [hik, ansU] at hih
        have hu := inf_ok us hus k u hik
        by_cases hi2 : i < 2
        · have hi2' : (i : Int) < 2 := by omega
          have hc : i = 0 ∨ i = 1 := by omega
          rcases hc with rfl | rfl
          all_goals
            simp only [Int.cast_ofNat_Int, Int.natCast_zero, Int.natCast_one] at hlt hi2'
            (have ww1 := hlt; have ww2 := hk; have ww3 := @encE_eq; have ww4 := hi2'; have cc1 := fun z1 => hih z1; refine wk ?_; clear ww1 ww2 ww3 ww4 cc1; (repeat' first | exact True.intro | refine Lf.mk ?_ ?_); all_goals intro hP)
            first
              | refine ⟨(0 + 1, acc ++ [u]), by simp only; omega, ⟨(by simp only [List.length_append, List.length_cons, List.length_nil]; omega), by simp only; omega, ?_, ?_⟩, ?_⟩
              | refine ⟨(1 + 1, acc ++ [u]), by simp only; omega, ⟨(by simp only [List.length_append, List.length_cons, List.length_nil]; omega), by simp only; omega, ?_, ?_⟩, ?_⟩
            · intro v hv
              rcases List.mem_append.1 hv with hv | hv
              · exact h3 v hv
              · simp only [List.mem_cons, List.not_mem_nil, or_false] at hv; subst hv; exact hu
            · simp only
              rw [hd, h4]
              cases infL us rest <;> simp
            · refine Wk.keepE 3 1 ?_ ?_ ?_ ?_
              · simp [u0_snoc, u1_snoc, h1]
              · simp
              · simp [AObj.under, AV.under]
              · simp only [List.map_cons, List.map_nil, AV.low, Fgt, true_or, or_true, and_true, true_and]
                simp
        · have hi2' : ¬ (i : Int) < 2 := by omega
          (have ww1 := hlt; have ww2 := hk; have ww3 := @encE_eq; have ww4 := hi2'; have cc1 := fun z1 => hih z1; refine wk ?_; clear ww1 ww2 ww3 ww4 cc1; (repeat' first | exact True.intro | refine Lf.mk ?_ ?_); all_goals intro hP)
          refine ⟨(i + 1, acc ++ [u]), by simp only; omega, ⟨by simp [h1], by simp only; omega, ?_, ?_⟩, ?_⟩
          · intro v hv
            rcases List.mem_append.1 hv with hv | hv
            · exact h3 v hv
            · simp only [List.mem_cons, List.not_mem_nil, or_false] at hv; subst hv; exact hu
          · simp only
            rw [hd, h4]
            cases infL us rest <;> simp
          · refine Wk.keepE 3 1 ?_ ?_ ?_ ?_
            · have n0 : ¬ i = 0 := by omega
              have n1 : ¬ i = 1 := by omega
              simp [u0_snoc, u1_snoc, h1, n0, n1]
            · simp
            · simp [AObj.under, AV.under]
            · simp only [List.map_cons, List.map_nil, AV.low, Fgt, true_or, or_true, and_true, true_and]
              simp [wrap_of (n := (i : Int) + 1) (by omega) (by omega)]
end Go.Proofs.Ytiifbdkedainnaa.Y

set_option maxHeartbeats 8000000
set_option maxRecDepth 20000
set_option linter.unusedVariables false
set_option linter.unusedSimpArgs false
namespace Go.Proofs.Ytiifbdkedainnaa.Y
open Go.Proofs.Ytiifbdkedainnaa.AL Go.Proofs Go
attribute [local irreducible] AWP AWL AWG AWR AWE AWX AWO AWSeq AWSG AWSR AWSO AWSE AWSF GoodP OGW OGR OGE OGX PGW PGR PGE Wk AWLoop AWPD AWLD

def varsB (l : List Vr) : Bool := match ksL l with
  | some _ => decide ((l.length : Int) ≤ 12)
  | none => false
theorem RVars_run (l : List Vr) (hl : l.length ≤ 1100000) (H0 : List AObj) : ARun Try.prog 58 [.rs 5 (l.map encV)] H0 (.ret (.b (varsB l)) H0) := by
  (refine ARun.intro Try.func58 rfl Try.call58 Try.ntmps58 Try.results58 ?_; simp only [List.length_cons, List.length_nil, List.length_map, Nat.reduceAdd, Nat.reduceSub, List.replicate_succ, List.replicate_zero, List.cons_append, List.nil_append])
  (refine wk ?_; (repeat' first | exact True.intro | refine Lf.mk ?_ ?_); all_goals intro hP)
  refine awp_loop_ind (σ := Nat) (fun s => l.length - s) (fun s => s ≤ l.length ∧ (ksL l).isSome = (ksL (l.drop s)).isSome)
    (fun s => (.rs 5 (l.map encV) :: .any :: .any :: .i s :: .any :: .any :: .any :: .any :: .any :: .any :: .any :: .any :: .any :: .any :: .any :: .any :: .any :: .any :: .any :: .any :: .any :: .any :: .any :: .any :: .any :: .any :: []))
    (fun s => H0) 0 ⟨Nat.zero_le _, by simp⟩ (by (refine fgtX ?_; try exact True.intro)) ?_
  rintro i ⟨h1, h4⟩
  cases hr : l.drop i with
  | nil =>
    have hlt := drop_nil hr
    rw [hr] at h4
    simp only [ksL, Option.isSome_some] at h4
    (have ww1 := hlt; refine wk ?_; clear ww1; (repeat' first | exact True.intro | refine Lf.mk ?_ ?_); all_goals intro hP)
    (refine resX ?_; try exact True.intro)
    unfold varsB
    cases hks : ksL l with
    | none => rw [hks] at h4; simp at h4
    | some us => simp
  | cons k rest =>
    obtain ⟨hk, hlt, hd, hm⟩ := drop_cons hr
    rw [hr] at h4
    cases hik : ofK k.unit with
    | none =>
      simp only [ksL, hik] at h4
      (have ww1 := hlt; have ww2 := hk; have ww3 := @encV_eq; have ww4 := @ofA.eq_1; have ww5 := hik; have cc1 := fun z1 z2 => ROf_run z1 z2; refine wk ?_; clear ww1 ww2 ww3 ww4 ww5 cc1; (repeat' first | exact True.intro | refine Lf.mk ?_ ?_); all_goals intro hP)
      (refine resX ?_; try exact True.intro)
      unfold varsB
      cases hks : ksL l with
      | none => simp
      | some us => rw [hks] at h4; simp at h4
    | some u =>
      simp only [ksL, hik] at h4
      (have ww1 := hlt; have ww2 := hk; have ww3 := @encV_eq; have ww4 := @ofA.eq_1; have ww5 := hik; have cc1 := fun z1 z2 => ROf_run z1 z2; refine wk ?_; clear ww1 ww2 ww3 ww4 ww5 cc1; (repeat' first | exact True.intro | refine Lf.mk ?_ ?_); all_goals intro hP)
      refine ⟨i + 1, by omega, ⟨by omega, ?_⟩, ?_⟩
      · rw [hd, h4]; cases ksL rest <;> rfl
      · (refine dropX ?_; try exact True.intro)
        simp [wrap_of (n := (i : Int) + 1) (by omega) (by omega)]
end Go.Proofs.Ytiifbdkedainnaa.Y

/- Plain laws: what the reference counts. -/
set_option linter.unusedVariables false
namespace Go.Proofs.Ytiifbdkedainnaa.AL
mutual
def mnS : St → Int → Int → Int
  | .mk k _ _ _ _ t e, b, n => if k = 2 then (n + 1 + mnL t (b - (n + 1)) 0) + mnL e (b - (n + 1 + mnL t (b - (n + 1)) 0)) 0 else n + 1
def mnL : List St → Int → Int → Int
  | [], _, n => n
  | s :: ss, b, n => if n ≤ b then mnL ss b (mnS s b n) else n
end
theorem mnS_eq (s : St) (b n : Int) : mnS s b n = if s.kind = 2 then (n + 1 + mnL s.thn (b - (n + 1)) 0) + mnL s.els (b - (n + 1 + mnL s.thn (b - (n + 1)) 0)) 0 else n + 1 := by cases s; rw [mnS]; rfl
theorem mn_key : ∀ s : St, ∀ b n : Int, n ≤ b → (n ≤ mnS s b n ∧ mnS s b n ≤ n + many s) ∧ (n + many s ≤ b → mnS s b n = n + many s) ∧ (b < n + many s → b < mnS s b n) := by
  have hl : ∀ l : List St, (∀ k ∈ l, ∀ b n : Int, n ≤ b → (n ≤ mnS k b n ∧ mnS k b n ≤ n + many k) ∧ (n + many k ≤ b → mnS k b n = n + many k) ∧ (b < n + many k → b < mnS k b n)) →
      ∀ b n : Int, (n ≤ mnL l b n ∧ mnL l b n ≤ n + manyL l) ∧ (n + manyL l ≤ b → mnL l b n = n + manyL l) ∧ (b < n + manyL l → b < mnL l b n) := by
    intro l
    induction l with
    | nil => intro _ b n; simp only [mnL, manyL]; omega
    | cons x xs ih =>
      intro h b n
      simp only [mnL, manyL]
      have hx : 1 ≤ many x := by rw [many_eq]; omega
      split
      · rename_i hnb
        have h1 := h x (by simp) b n hnb
        have h2 := ih (fun k hk => h k (by simp [hk])) b (mnS x b n)
        omega
      · omega
  intro s
  induction s using St.ind with
  | h s ih1 ih2 =>
    intro b n hnb
    rw [mnS_eq, many_eq]
    split
    · have h1 := hl s.thn ih1 (b - (n + 1)) 0
      have h2 := hl s.els ih2 (b - (n + 1 + mnL s.thn (b - (n + 1)) 0)) 0
      omega
    · omega
theorem mnL_key (l : List St) (b n : Int) : (n ≤ mnL l b n ∧ mnL l b n ≤ n + manyL l) ∧ (n + manyL l ≤ b → mnL l b n = n + manyL l) ∧ (b < n + manyL l → b < mnL l b n) := by
  induction l generalizing n with
  | nil => simp only [mnL, manyL]; omega
  | cons x xs ih =>
    simp only [mnL, manyL]
    have hx : 1 ≤ many x := by rw [many_eq]; omega
    split
    · rename_i hnb
      have h1 := mn_key x b n hnb
      have h2 := ih (mnS x b n)
      omega
    · omega
theorem mnL_gt (l : List St) (b : Int) : b < mnL l b 0 ↔ b < manyL l := by
  have := mnL_key l b 0
  omega
theorem mnS_bd (s : St) (b n : Int) (h : n ≤ b) : n ≤ mnS s b n ∧ mnS s b n ≤ n + many s := (mn_key s b n h).1

mutual
def smlS : St → Bool
  | .mk _ _ _ a b t e => decide (nodes a ≤ 150) && decide (nodes b ≤ 150) && (smlA t && decide (t.length ≤ 150)) && (smlA e && decide (e.length ≤ 150))
def smlA : List St → Bool
  | [] => true
  | s :: ss => smlS s && smlA ss
end
def smlL (l : List St) : Bool := smlA l && decide (l.length ≤ 150)
theorem smlS_eq (s : St) : smlS s = (decide (nodes s.a ≤ 150) && decide (nodes s.b ≤ 150) && smlL s.thn && smlL s.els) := by cases s; rw [smlS]; rfl
/-- What is examined. -/
def fewB (p : Prg) : Bool :=
  (smlL p.on0 && decide (manyL p.on0 ≤ 150)) && ((smlL p.on1 && decide (manyL p.on1 ≤ 150)) && ((smlL p.on2 && decide (manyL p.on2 ≤ 150)) && ((smlL p.on3 && decide (manyL p.on3 ≤ 150)) && ((smlL p.on4 && decide (manyL p.on4 ≤ 150)) &&
    (decide (p.vars.length ≤ 30) && decide (p.name.size ≤ 100))))))
theorem smlA_mem {l : List St} (h : smlA l = true) : ∀ s ∈ l, smlS s = true := by
  induction l with
  | nil => intro s hs; cases hs
  | cons x xs ih =>
    simp only [smlA, Bool.and_eq_true] at h
    intro s hs
    rcases List.mem_cons.1 hs with rfl | hs
    · exact h.1
    · exact ih h.2 s hs
theorem sml_fine : ∀ s : St, smlS s = true → fine s := by
  have hl : ∀ l : List St, (∀ k ∈ l, smlS k = true → fine k) → smlA l = true → fineL l := by
    intro l
    induction l with
    | nil => intro _ _; trivial
    | cons x xs ih =>
      intro h h2
      simp only [smlA, Bool.and_eq_true] at h2
      exact ⟨h x (by simp) h2.1, ih (fun k hk => h k (by simp [hk])) h2.2⟩
  intro s
  induction s using St.ind with
  | h s h1 h2 =>
    intro h
    rw [smlS_eq] at h
    simp only [smlL, Bool.and_eq_true, decide_eq_true_eq] at h
    rw [fine_eq]
    exact ⟨by omega, by omega, hl _ h1 h.1.2.1, hl _ h2 h.2.1⟩
theorem smlL_fine {l : List St} (h : smlL l = true) : fineL l := by
  simp only [smlL, Bool.and_eq_true] at h
  have h1 := smlA_mem h.1
  clear h
  induction l with
  | nil => trivial
  | cons x xs ih => exact ⟨sml_fine x (h1 x (by simp)), ih (fun s hs => h1 s (by simp [hs]))⟩
theorem few_ok {p : Prg} (h : fewB p = true) : okP p := by
  simp only [fewB, Bool.and_eq_true, decide_eq_true_eq] at h
  obtain ⟨⟨a0, b0⟩, ⟨a1, b1⟩, ⟨a2, b2⟩, ⟨a3, b3⟩, ⟨a4, b4⟩, _⟩ := h
  exact ⟨⟨by omega, smlL_fine a0⟩, ⟨by omega, smlL_fine a1⟩, ⟨by omega, smlL_fine a2⟩, ⟨by omega, smlL_fine a3⟩, ⟨by omega, smlL_fine a4⟩⟩
end Go.Proofs.Ytiifbdkedainnaa.AL

set_option maxHeartbeats 8000000
set_option maxRecDepth 20000
set_option linter.unusedVariables false
set_option linter.unusedSimpArgs false
namespace Go.Proofs.Ytiifbdkedainnaa.Y
open Go.Proofs.Ytiifbdkedainnaa.AL Go.Proofs Go
attribute [local irreducible] AWP AWL AWG AWR AWE AWX AWO AWSeq AWSG AWSR AWSO AWSE AWSF GoodP OGW OGR OGE OGX PGW PGR PGE Wk AWLoop AWPD AWLD

theorem RMany_run : ∀ (N : Nat) (l : List St), manyL l ≤ N → manyL l ≤ 1100000 → ∀ (b : Int) (H0 : List AObj), -1100000 ≤ b → b ≤ 1100000 →
    ARun Try.prog 65 [.rs 13 (l.map encS), .i b] H0 (.ret (.i (mnL l b 0)) H0) := by
  intro N
  induction N with
  | zero =>
    intro l hN _ b H0 hb1 hb2
    have hl : l = [] := by have := len_manyL l; exact List.eq_nil_of_length_eq_zero (by omega)
    subst hl
    (refine ARun.intro Try.func65 rfl Try.call65 Try.ntmps65 Try.results65 ?_; simp only [List.length_cons, List.length_nil, List.length_map, Nat.reduceAdd, Nat.reduceSub, List.replicate_succ, List.replicate_zero, List.cons_append, List.nil_append])
    (refine wk ?_; (repeat' first | exact True.intro | refine Lf.mk ?_ ?_); all_goals intro hP)
    refine awp_loop 1 ?_
    unfold AWLoop
    (refine wk ?_; (repeat' first | exact True.intro | refine Lf.mk ?_ ?_); all_goals intro hP)
    (refine resX ?_; try exact True.intro)
    all_goals simp [mnL]
  | succ N ihN =>
    intro l hN hM b H0 hb1 hb2
    (refine ARun.intro Try.func65 rfl Try.call65 Try.ntmps65 Try.results65 ?_; simp only [List.length_cons, List.length_nil, List.length_map, Nat.reduceAdd, Nat.reduceSub, List.replicate_succ, List.replicate_zero, List.cons_append, List.nil_append])
    (refine wk ?_; (repeat' first | exact True.intro | refine Lf.mk ?_ ?_); all_goals intro hP)
    refine awp_loop_ind (σ := Nat × Int) (fun s => l.length - s.1) (fun s => 0 ≤ s.2 ∧ s.2 ≤ 1100000 ∧ mnL (l.drop s.1) b s.2 = mnL l b 0)
      (fun s => (.rs 13 (l.map encS) :: .i b :: .any :: .any :: .any :: .i s.2 :: .i s.1 :: .any :: .any :: .any :: .any :: .any :: .any :: .any :: .any :: .any :: .any :: .any :: .any :: .any :: .any :: .any :: .any :: .any :: .any :: .any :: .any :: .any :: .any :: .any :: .any :: .any :: .any :: .any :: .any :: .any :: .any :: .any :: .any :: .any :: .any :: .any :: .any :: .any :: .any :: .any :: .any :: .any :: .any :: []))
      (fun s => H0) (0, 0) ⟨by simp, by simp, by simp⟩ (by (refine fgtX ?_; try exact True.intro)) ?_
    rintro ⟨i, n⟩ ⟨h2, h3, h4⟩
    simp only at h2 h3 h4 ⊢
    have hlen := len_manyL l
    cases hr : l.drop i with
    | nil =>
      have hlt := drop_nil hr
      rw [hr, mnL] at h4
      (have ww1 := hlt; refine wk ?_; clear ww1; (repeat' first | exact True.intro | refine Lf.mk ?_ ?_); all_goals intro hP)
      (refine resX ?_; try exact True.intro)
      rw [h4]
    | cons k rest =>
      obtain ⟨hk, hlt, hd, hm⟩ := drop_cons hr
      rw [hr, mnL] at h4
      have hz2 := manyL_mem hm
      by_cases hnb : n ≤ b
      · rw [if_pos hnb] at h4
        have hbd := mnS_bd k b n hnb
        have hbd2 := (mnL_key rest b (mnS k b n)).1
        have hbd3 := (mnL_key l b 0).1
        rw [mnS_eq] at h4 hbd hbd2
        by_cases hk2 : k.kind = 2
        · rw [if_pos hk2] at h4 hbd hbd2
          have hin : manyL k.thn + manyL k.els = manyL (innerL k) := by
            rw [innerL, if_pos hk2, manyL_append]
          have t1 := mnL_key k.thn (b - (n + 1)) 0
          have t2 := mnL_key k.els (b - (n + 1 + mnL k.thn (b - (n + 1)) 0)) 0
          repeat' (first | refine awp_seq ?_ | refine awp_block ?_ | refine awp_scope ?_ | ((first | refine awp_region_k fun Kn Kp hn hp => ?_ | refine oge_intro (by assumption) ?_ | (show AWE _ _ _ _ _ _ _ _ _; first | refine awe_intro (ihN k.thn (by omega) (by omega) _ _ (by omega) (by omega)) ?_ | refine awe_intro (ihN k.els (by omega) (by omega) _ _ (by omega) (by omega)) ?_) | (show AWSF _ _ _ _ _ _ _ _ _ _ _; first | refine awsf_intro (ihN k.thn (by omega) (by omega) _ _ (by omega) (by omega)) (fun hrun => ?_) | refine awsf_intro (ihN k.els (by omega) (by omega) _ _ (by omega) (by omega)) (fun hrun => ?_)) | (show OGE _ _ _ _ _ _ _; first | refine oge_intro (ihN k.thn (by omega) (by omega) _ _ (by omega) (by omega)) ?_ | refine oge_intro (ihN k.els (by omega) (by omega) _ _ (by omega) (by omega)) ?_) | (show AWSE _ _ _ _ _ _ _ _ _ _ _; first | refine awse_intro (ihN k.thn (by omega) (by omega) _ _ (by omega) (by omega)) (fun hrun => ?_) | refine awse_intro (ihN k.els (by omega) (by omega) _ _ (by omega) (by omega)) (fun hrun => ?_)) | (show PGE _ _ _ _ _; first | refine pge_intro (ihN k.thn (by omega) (by omega) _ _ (by omega) (by omega)) (fun tm' => ?_) | refine pge_intro (ihN k.els (by omega) (by omega) _ _ (by omega) (by omega)) (fun tm' => ?_))) <;> (simp only [go_sem, Nat.reduceAdd, Nat.reduceSub, Nat.reduceMul, Nat.reduceLeDiff, Nat.reduceLT, Nat.reduceEqDiff, Int.reduceToNat, Int.reduceAdd, Int.reduceMul, Int.reduceSub, Int.reduceLT, Int.reduceLE, Int.reduceEq, Int.reduceNeg, Int.reduceBEq, Int.reduceBNe, ↓reduceIte, reduceCtorEq, hlt, hnb, hk, encS_eq, hk2] <;> try simp (disch := omega) only [wrap_of])) | (refine hn _ _ ?_; clear hn hp Kn Kp) | (refine hp _ _ _ ?_; clear hn hp Kn Kp) | (refine awp_cond rfl (fun hb => ?_) (fun hb => ?_) <;> (try simp only [decide_eq_true_eq, decide_eq_false_iff_not, Bool.not_eq_true', Bool.not_eq_false', Bool.true_eq_false, Bool.false_eq_true, beq_iff_eq, bne_iff_ne, bne_eq_false_iff_eq, beq_eq_false_iff_ne, gt_iff_lt, ge_iff_le, Int.reduceEq, Int.reduceNe, Int.reduceLT, Int.reduceLE, ne_eq, not_true_eq_false, not_false_eq_true] at hb)) | ((first | refine awg_split (fun hb => ?_) (fun hb => ?_) | refine awsg_split (fun hb => ?_) (fun hb => ?_)) <;> have hb0 := hb <;> (try simp only [decide_eq_true_eq, decide_eq_false_iff_not, Bool.not_eq_true', Bool.not_eq_false', Bool.true_eq_false, Bool.false_eq_true, beq_iff_eq, bne_iff_ne, bne_eq_false_iff_eq, beq_eq_false_iff_ne, gt_iff_lt, ge_iff_le, Int.reduceEq, Int.reduceNe, Int.reduceLT, Int.reduceLE, ne_eq, not_true_eq_false, not_false_eq_true] at hb0) <;> (try simp only [beq_true, beq_false, Bool.not_eq_true', Bool.not_eq_false'] at hb) <;> (simp only [go_sem, Nat.reduceAdd, Nat.reduceSub, Nat.reduceMul, Nat.reduceLeDiff, Nat.reduceLT, Nat.reduceEqDiff, Int.reduceToNat, Int.reduceAdd, Int.reduceMul, Int.reduceSub, Int.reduceLT, Int.reduceLE, Int.reduceEq, Int.reduceNeg, Int.reduceBEq, Int.reduceBNe, ↓reduceIte, reduceCtorEq, hlt, hnb, hk, encS_eq, hk2, hb, hb0] <;> try simp (disch := omega) only [wrap_of])) | (refine And.intro ?_ ?_) | refine awp_skip ?_ | refine awp_ret ?_ | refine awp_exit ?_ | refine awp_label ?_ | refine awloop_step ?_ | fail)
          refine ⟨(i + 1, _), by simp only; omega, ⟨?_, ?_, by simp only; rw [hd]; exact h4⟩, ?_⟩
          · simp only; omega
          · simp only; omega
          · (refine dropX ?_; try exact True.intro)
            simp [wrap_of (n := (i : Int) + 1) (by omega) (by omega)]
        · rw [if_neg hk2] at h4 hbd hbd2
          have hk2' : (k.kind == 2) = false := by simpa using hk2
          (have ww1 := hlt; have ww2 := hnb; have ww3 := hk; have ww4 := @encS_eq; have ww5 := hk2'; refine wk ?_; clear ww1 ww2 ww3 ww4 ww5; (repeat' first | exact True.intro | refine Lf.mk ?_ ?_); all_goals intro hP)
          refine ⟨(i + 1, _), by simp only; omega, ⟨?_, ?_, by simp only; rw [hd]; exact h4⟩, ?_⟩
          · simp only; omega
          · simp only; omega
          · (refine dropX ?_; try exact True.intro)
            simp [wrap_of (n := (i : Int) + 1) (by omega) (by omega)]
      · rw [if_neg hnb] at h4
        (have ww1 := hlt; have ww2 := hnb; refine wk ?_; clear ww1 ww2; (repeat' first | exact True.intro | refine Lf.mk ?_ ?_); all_goals intro hP)
        (refine resX ?_; try exact True.intro)
        rw [h4]

theorem RShort_run : ∀ (N : Nat) (l : List St), totL l ≤ N → ∀ (H0 : List AObj), ARun Try.prog 66 [.rs 13 (l.map encS)] H0 (.ret (.b (smSL l)) H0) := by
  intro N
  induction N with
  | zero =>
    intro l hN H0
    have hl : l = [] := by have := len_totL l; exact List.eq_nil_of_length_eq_zero (by omega)
    subst hl
    (refine ARun.intro Try.func66 rfl Try.call66 Try.ntmps66 Try.results66 ?_; simp only [List.length_cons, List.length_nil, List.length_map, Nat.reduceAdd, Nat.reduceSub, List.replicate_succ, List.replicate_zero, List.cons_append, List.nil_append])
    (refine wk ?_; (repeat' first | exact True.intro | refine Lf.mk ?_ ?_); all_goals intro hP)
    refine awp_loop 1 ?_
    unfold AWLoop
    (refine wk ?_; (repeat' first | exact True.intro | refine Lf.mk ?_ ?_); all_goals intro hP)
    (refine resX ?_; try exact True.intro)
    all_goals simp [smSL]
  | succ N ihN =>
    intro l hN H0
    (refine ARun.intro Try.func66 rfl Try.call66 Try.ntmps66 Try.results66 ?_; simp only [List.length_cons, List.length_nil, List.length_map, Nat.reduceAdd, Nat.reduceSub, List.replicate_succ, List.replicate_zero, List.cons_append, List.nil_append])
    refine awp_len 0 rfl fun hlen => ?_
    rw [List.length_map] at hlen
    (refine wk ?_; (repeat' first | exact True.intro | refine Lf.mk ?_ ?_); all_goals intro hP)
    refine awp_loop_ind (σ := Nat) (fun s => l.length - s) (fun s => s ≤ l.length ∧ smSL l = smSL (l.drop s))
      (fun s => (.rs 13 (l.map encS) :: .any :: .any :: .i s :: .any :: .any :: .any :: .any :: .any :: .any :: .any :: .any :: .any :: .any :: .any :: .any :: .any :: .any :: .any :: .any :: .any :: .any :: .any :: .any :: .any :: .any :: .any :: .any :: .any :: .any :: .any :: .any :: .any :: .any :: .any :: .any :: .any :: .any :: .any :: .any :: .any :: .any :: []))
      (fun s => H0) 0 ⟨Nat.zero_le _, by simp⟩ (by (refine fgtX ?_; try exact True.intro)) ?_
    rintro i ⟨h1, h4⟩
    cases hr : l.drop i with
    | nil =>
      have hlt := drop_nil hr
      rw [hr, smSL] at h4
      (have ww1 := hlt; refine wk ?_; clear ww1; (repeat' first | exact True.intro | refine Lf.mk ?_ ?_); all_goals intro hP)
      (refine resX ?_; try exact True.intro)
      rw [h4]
    | cons k rest =>
      obtain ⟨hk, hlt, hd, hm⟩ := drop_cons hr
      have hmm := totL_mem hm
      rw [tot_eq] at hmm
      have ht := fun H0 => ihN k.thn (by omega) H0
      have he := fun H0 => ihN k.els (by omega) H0
      have ka := fun H0 => Size_run k.a 60 H0 (by omega) (by omega)
      have kb := fun H0 => Size_run k.b 60 H0 (by omega) (by omega)
      have ga := size_gt k.a 60 (by omega)
      have gb := size_gt k.b 60 (by omega)
      have hks : smS k = (decide (nodes k.a ≤ 60) && (if k.kind = 2 then decide (nodes k.b ≤ 60) && (smSL k.thn && smSL k.els) else true)) := by cases k; rw [smS]; rfl
      rw [hr] at h4
      simp only [smSL] at h4
      rw [hks] at h4
      by_cases hA : 60 < size k.a 60
      · have : ¬ nodes k.a ≤ 60 := by have := ga.1 hA; omega
        (have ww1 := hlt; have ww2 := hk; have ww3 := @encS_eq; have ww4 := hA; have cc1 := fun z1 => ka z1; refine wk ?_; clear ww1 ww2 ww3 ww4 cc1; (repeat' first | exact True.intro | refine Lf.mk ?_ ?_); all_goals intro hP)
        (refine resX ?_; try exact True.intro)
        rw [h4]; simp [this]
      · have hA' : nodes k.a ≤ 60 := by have := fun h => hA (ga.2 h); omega
        by_cases hk2 : k.kind = 2
        · by_cases hB : 60 < size k.b 60
          · have : ¬ nodes k.b ≤ 60 := by have := gb.1 hB; omega
            (have ww1 := hlt; have ww2 := hk; have ww3 := @encS_eq; have ww4 := hA; have ww5 := hk2; have ww6 := hB; have cc1 := fun z1 => ka z1; have cc2 := fun z1 => kb z1; have cc3 := fun z1 => ht z1; have cc4 := fun z1 => he z1; refine wk ?_; clear ww1 ww2 ww3 ww4 ww5 ww6 cc1 cc2 cc3 cc4; (repeat' first | exact True.intro | refine Lf.mk ?_ ?_); all_goals intro hP)
            (refine resX ?_; try exact True.intro)
            rw [h4]; simp [this, hk2]
          · have hB' : nodes k.b ≤ 60 := by have := fun h => hB (gb.2 h); omega
            cases hT : smSL k.thn with
            | false =>
              simp only [hT] at ht
              (have ww1 := hlt; have ww2 := hk; have ww3 := @encS_eq; have ww4 := hA; have ww5 := hk2; have ww6 := hB; have cc1 := fun z1 => ka z1; have cc2 := fun z1 => kb z1; have cc3 := fun z1 => ht z1; have cc4 := fun z1 => he z1; refine wk ?_; clear ww1 ww2 ww3 ww4 ww5 ww6 cc1 cc2 cc3 cc4; (repeat' first | exact True.intro | refine Lf.mk ?_ ?_); all_goals intro hP)
              (refine resX ?_; try exact True.intro)
              rw [h4]; simp [hT, hk2]
            | true =>
              simp only [hT] at ht
              cases hE : smSL k.els with
              | false =>
                simp only [hE] at he
                (have ww1 := hlt; have ww2 := hk; have ww3 := @encS_eq; have ww4 := hA; have ww5 := hk2; have ww6 := hB; have cc1 := fun z1 => ka z1; have cc2 := fun z1 => kb z1; have cc3 := fun z1 => ht z1; have cc4 := fun z1 => he z1; refine wk ?_; clear ww1 ww2 ww3 ww4 ww5 ww6 cc1 cc2 cc3 cc4; (repeat' first | exact True.intro | refine Lf.mk ?_ ?_); all_goals intro hP)
                (refine resX ?_; try exact True.intro)
                rw [h4]; simp [hT, hE, hk2]
              | true =>
                simp only [hE] at he
                (have ww1 := hlt; have ww2 := hk; have ww3 := @encS_eq; have ww4 := hA; have ww5 := hk2; have ww6 := hB; have cc1 := fun z1 => ka z1; have cc2 := fun z1 => kb z1; have cc3 := fun z1 => ht z1; have cc4 := fun z1 => he z1; refine wk ?_; clear ww1 ww2 ww3 ww4 ww5 ww6 cc1 cc2 cc3 cc4; (repeat' first | exact True.intro | refine Lf.mk ?_ ?_); all_goals intro hP)
                refine ⟨i + 1, by omega, ⟨by omega, ?_⟩, ?_⟩
                · rw [h4, hd]; simp [hA', hB', hT, hE]
                · (refine dropX ?_; try exact True.intro)
                  simp [wrap_of (n := (i : Int) + 1) (by omega) (by omega)]
        · have hk2' : (k.kind == 2) = false := by simpa using hk2
          (have ww1 := hlt; have ww2 := hk; have ww3 := @encS_eq; have ww4 := hA; have ww5 := hk2'; have cc1 := fun z1 => ka z1; refine wk ?_; clear ww1 ww2 ww3 ww4 ww5 cc1; (repeat' first | exact True.intro | refine Lf.mk ?_ ?_); all_goals intro hP)
          refine ⟨i + 1, by omega, ⟨by omega, ?_⟩, ?_⟩
          · rw [h4, hd]; simp [hA', hk2]
          · (refine dropX ?_; try exact True.intro)
            simp [wrap_of (n := (i : Int) + 1) (by omega) (by omega)]
end Go.Proofs.Ytiifbdkedainnaa.Y

set_option maxHeartbeats 8000000
set_option maxRecDepth 20000
set_option linter.unusedVariables false
set_option linter.unusedSimpArgs false
namespace Go.Proofs.Ytiifbdkedainnaa.Y
open Go.Proofs.Ytiifbdkedainnaa.AL Go.Proofs Go
attribute [local irreducible] AWP AWL AWG AWR AWE AWX AWO AWSeq AWSG AWSR AWSO AWSE AWSF GoodP OGW OGR OGE OGX PGW PGR PGE Wk AWLoop AWPD AWLD

def fine1 (p : Prg) : Prop := manyL p.on0 ≤ 1100000 ∧ manyL p.on1 ≤ 1100000 ∧ manyL p.on2 ≤ 1100000 ∧ manyL p.on3 ≤ 1100000 ∧ manyL p.on4 ≤ 1100000 ∧ p.vars.length ≤ 1100000
end Go.Proofs.Ytiifbdkedainnaa.Y

set_option maxHeartbeats 8000000
set_option maxRecDepth 20000
set_option linter.unusedVariables false
set_option linter.unusedSimpArgs false
namespace Go.Proofs.Ytiifbdkedainnaa.Y
open Go.Proofs.Ytiifbdkedainnaa.AL Go.Proofs Go
attribute [local irreducible] AWP AWL AWG AWR AWE AWX AWO AWSeq AWSG AWSR AWSO AWSE AWSF GoodP OGW OGR OGE OGX PGW PGR PGE Wk AWLoop AWPD AWLD

theorem Rstmt_run (l : List Vr) (us : List Un) (hks : ksL l = some us) (s : St)
    (hT : ∀ H0, ARun Try.prog 67 [.rs 5 (l.map encV), .rs 13 (s.thn.map encS)] H0 (.ret (.i (stSL us s.thn)) H0))
    (hE : ∀ H0, ARun Try.prog 67 [.rs 5 (l.map encV), .rs 13 (s.els.map encS)] H0 (.ret (.i (stSL us s.els)) H0))
    (H0 : List AObj) : ARun Try.prog 79 [.rs 5 (l.map encV), .ag (cS s)] H0 (.ret (.i (stS us s)) H0) := by
  have hg := ksL_get hks
  have ka := fun H0 => Rexpr_run l us hks s.a H0
  have kb := fun H0 => Rexpr_run l us hks s.b H0
  rw [stS_eq]
  by_cases h1 : s.kind = 1
  · simp only [h1, if_true]
    by_cases hv0 : 0 ≤ s.var
    · simp only [hv0, if_true]
      have hn0 : ¬ s.var < 0 := by omega
      cases hv : l[s.var.toNat]? with
      | none =>
        have hu := hg s.var.toNat
        rw [hv] at hu
        simp only [Option.bind_none] at hu
        rw [hu]
        have hlv : (l.length : Int) ≤ s.var := by rw [List.getElem?_eq_none_iff] at hv; omega
        (refine ARun.intro Try.func79 rfl Try.call79 Try.ntmps79 Try.results79 ?_; simp only [List.length_cons, List.length_nil, List.length_map, Nat.reduceAdd, Nat.reduceSub, List.replicate_succ, List.replicate_zero, List.cons_append, List.nil_append])
        (have ww1 := h1; have ww2 := hn0; have ww3 := hlv; refine wk ?_; clear ww1 ww2 ww3; (repeat' first | exact True.intro | refine Lf.mk ?_ ?_); all_goals intro hP)
        (refine resX ?_; try exact True.intro)
      | some v =>
        have hu := hg s.var.toNat
        rw [hv] at hu
        simp only [Option.bind_some] at hu
        have hlt := (List.getElem?_eq_some_iff.1 hv).1
        have hlv : ¬ (l.length : Int) ≤ s.var := by omega
        have hlv2 : s.var < (l.length : Int) := by omega
        have hsome : ∃ w, ofK v.unit = some w := by
          have h2 : s.var.toNat < us.length := by rw [ksL_len hks]; omega
          rw [List.getElem?_eq_getElem h2] at hu
          exact ⟨_, hu.symm⟩
        obtain ⟨w, hw⟩ := hsome
        rw [hw] at hu
        simp only [hu]
        cases hi : inf us s.a with
        | error x =>
          have hx := inf_err us s.a x hi
          have hx0 : (x != 0) = true := by simp; omega
          simp only [hi, ansU] at ka
          (refine ARun.intro Try.func79 rfl Try.call79 Try.ntmps79 Try.results79 ?_; simp only [List.length_cons, List.length_nil, List.length_map, Nat.reduceAdd, Nat.reduceSub, List.replicate_succ, List.replicate_zero, List.cons_append, List.nil_append])
          (have ww1 := h1; have ww2 := hn0; have ww3 := hlv; have ww4 := hx0; have cc1 := fun z1 => ka z1; refine wk ?_; clear ww1 ww2 ww3 ww4 cc1; (repeat' first | exact True.intro | refine Lf.mk ?_ ?_); all_goals intro hP)
          (refine resX ?_; try exact True.intro)
        | ok u =>
          simp only [hi, ansU] at ka
          have hE := eqU u w
          by_cases huw : u = w
          · rw [decide_eq_true huw] at hE
            (refine ARun.intro Try.func79 rfl Try.call79 Try.ntmps79 Try.results79 ?_; simp only [List.length_cons, List.length_nil, List.length_map, Nat.reduceAdd, Nat.reduceSub, List.replicate_succ, List.replicate_zero, List.cons_append, List.nil_append])
            (have ww1 := h1; have ww2 := hn0; have ww3 := hlv; have ww4 := hlv2; have ww5 := hv0; have ww6 := hv; have ww7 := @encV_eq; have ww8 := @ofA.eq_1; have ww9 := hw; have ww10 := @eqs34; have ww11 := @eqg34; have ww12 := hE; have cc1 := fun z1 => ka z1; have cc2 := fun z1 z2 => ROf_run z1 z2; refine wk ?_; clear ww1 ww2 ww3 ww4 ww5 ww6 ww7 ww8 ww9 ww10 ww11 ww12 cc1 cc2; (repeat' first | exact True.intro | refine Lf.mk ?_ ?_); all_goals intro hP)
            (refine resX ?_; try exact True.intro)
            all_goals simp [huw]
          · rw [decide_eq_false huw] at hE
            (refine ARun.intro Try.func79 rfl Try.call79 Try.ntmps79 Try.results79 ?_; simp only [List.length_cons, List.length_nil, List.length_map, Nat.reduceAdd, Nat.reduceSub, List.replicate_succ, List.replicate_zero, List.cons_append, List.nil_append])
            (have ww1 := h1; have ww2 := hn0; have ww3 := hlv; have ww4 := hlv2; have ww5 := hv0; have ww6 := hv; have ww7 := @encV_eq; have ww8 := @ofA.eq_1; have ww9 := hw; have ww10 := @eqs34; have ww11 := @eqg34; have ww12 := hE; have cc1 := fun z1 => ka z1; have cc2 := fun z1 z2 => ROf_run z1 z2; refine wk ?_; clear ww1 ww2 ww3 ww4 ww5 ww6 ww7 ww8 ww9 ww10 ww11 ww12 cc1 cc2; (repeat' first | exact True.intro | refine Lf.mk ?_ ?_); all_goals intro hP)
            (refine resX ?_; try exact True.intro)
            all_goals simp [huw]
    · have hn0 : s.var < 0 := by omega
      simp only [hv0, if_false]
      (refine ARun.intro Try.func79 rfl Try.call79 Try.ntmps79 Try.results79 ?_; simp only [List.length_cons, List.length_nil, List.length_map, Nat.reduceAdd, Nat.reduceSub, List.replicate_succ, List.replicate_zero, List.cons_append, List.nil_append])
      (have ww1 := h1; have ww2 := hn0; refine wk ?_; clear ww1 ww2; (repeat' first | exact True.intro | refine Lf.mk ?_ ?_); all_goals intro hP)
      (refine resX ?_; try exact True.intro)
  · have h1' : (s.kind == 1) = false := by simpa using h1
    simp only [h1, if_false]
    by_cases h2 : s.kind = 2
    · simp only [h2, if_true]
      by_cases hr : 1 ≤ s.rel ∧ s.rel ≤ 6
      · have r1 : ¬ s.rel < 1 := by omega
        have r2 : ¬ 6 < s.rel := by omega
        simp only [hr, and_self, if_true]
        cases hi : inf us s.a with
        | error x =>
          have hx := inf_err us s.a x hi
          have hx0 : (x != 0) = true := by simp; omega
          simp only [hi, ansU] at ka
          (refine ARun.intro Try.func79 rfl Try.call79 Try.ntmps79 Try.results79 ?_; simp only [List.length_cons, List.length_nil, List.length_map, Nat.reduceAdd, Nat.reduceSub, List.replicate_succ, List.replicate_zero, List.cons_append, List.nil_append])
          (have ww1 := h2; have ww2 := r1; have ww3 := r2; have ww4 := hx0; have cc1 := fun z1 => ka z1; refine wk ?_; clear ww1 ww2 ww3 ww4 cc1; (repeat' first | exact True.intro | refine Lf.mk ?_ ?_); all_goals intro hP)
          (refine resX ?_; try exact True.intro)
        | ok u =>
          simp only [hi, ansU] at ka
          cases hj : inf us s.b with
          | error x =>
            have hx := inf_err us s.b x hj
            have hx0 : (x != 0) = true := by simp; omega
            simp only [hj, ansU] at kb
            (refine ARun.intro Try.func79 rfl Try.call79 Try.ntmps79 Try.results79 ?_; simp only [List.length_cons, List.length_nil, List.length_map, Nat.reduceAdd, Nat.reduceSub, List.replicate_succ, List.replicate_zero, List.cons_append, List.nil_append])
            (have ww1 := h2; have ww2 := r1; have ww3 := r2; have ww4 := hx0; have cc1 := fun z1 => ka z1; have cc2 := fun z1 => kb z1; refine wk ?_; clear ww1 ww2 ww3 ww4 cc1 cc2; (repeat' first | exact True.intro | refine Lf.mk ?_ ?_); all_goals intro hP)
            (refine resX ?_; try exact True.intro)
          | ok w =>
            simp only [hj, ansU] at kb
            have hEq := eqU u w
            by_cases huw : u = w
            · rw [decide_eq_true huw] at hEq
              simp only [huw, if_true]
              by_cases hS : stSL us s.thn = 0
              · have hS' : (stSL us s.thn != 0) = false := by simp [hS]
                simp only [hS, if_true]
                (refine ARun.intro Try.func79 rfl Try.call79 Try.ntmps79 Try.results79 ?_; simp only [List.length_cons, List.length_nil, List.length_map, Nat.reduceAdd, Nat.reduceSub, List.replicate_succ, List.replicate_zero, List.cons_append, List.nil_append])
                (have ww1 := h2; have ww2 := r1; have ww3 := r2; have ww4 := @eqs34; have ww5 := @eqg34; have ww6 := hEq; have ww7 := hS'; have cc1 := fun z1 => ka z1; have cc2 := fun z1 => kb z1; have cc3 := fun z1 => hT z1; have cc4 := fun z1 => hE z1; refine wk ?_; clear ww1 ww2 ww3 ww4 ww5 ww6 ww7 cc1 cc2 cc3 cc4; (repeat' first | exact True.intro | refine Lf.mk ?_ ?_); all_goals intro hP)
                (refine resX ?_; try exact True.intro)
              · have hS' : (stSL us s.thn != 0) = true := by simpa using hS
                simp only [hS, if_false]
                (refine ARun.intro Try.func79 rfl Try.call79 Try.ntmps79 Try.results79 ?_; simp only [List.length_cons, List.length_nil, List.length_map, Nat.reduceAdd, Nat.reduceSub, List.replicate_succ, List.replicate_zero, List.cons_append, List.nil_append])
                (have ww1 := h2; have ww2 := r1; have ww3 := r2; have ww4 := @eqs34; have ww5 := @eqg34; have ww6 := hEq; have ww7 := hS'; have cc1 := fun z1 => ka z1; have cc2 := fun z1 => kb z1; have cc3 := fun z1 => hT z1; have cc4 := fun z1 => hE z1; refine wk ?_; clear ww1 ww2 ww3 ww4 ww5 ww6 ww7 cc1 cc2 cc3 cc4; (repeat' first | exact True.intro | refine Lf.mk ?_ ?_); all_goals intro hP)
                (refine resX ?_; try exact True.intro)
            · rw [decide_eq_false huw] at hEq
              simp only [huw, if_false]
              (refine ARun.intro Try.func79 rfl Try.call79 Try.ntmps79 Try.results79 ?_; simp only [List.length_cons, List.length_nil, List.length_map, Nat.reduceAdd, Nat.reduceSub, List.replicate_succ, List.replicate_zero, List.cons_append, List.nil_append])
              (have ww1 := h2; have ww2 := r1; have ww3 := r2; have ww4 := @eqs34; have ww5 := @eqg34; have ww6 := hEq; have cc1 := fun z1 => ka z1; have cc2 := fun z1 => kb z1; refine wk ?_; clear ww1 ww2 ww3 ww4 ww5 ww6 cc1 cc2; (repeat' first | exact True.intro | refine Lf.mk ?_ ?_); all_goals intro hP)
              (refine resX ?_; try exact True.intro)
      · simp only [hr, if_false]
        (refine ARun.intro Try.func79 rfl Try.call79 Try.ntmps79 Try.results79 ?_; simp only [List.length_cons, List.length_nil, List.length_map, Nat.reduceAdd, Nat.reduceSub, List.replicate_succ, List.replicate_zero, List.cons_append, List.nil_append])
        repeat' (first | refine awp_seq ?_ | refine awp_block ?_ | refine awp_scope ?_ | ((first | refine awp_region_k fun Kn Kp hn hp => ?_ | refine oge_intro (by assumption) ?_) <;> (simp only [go_sem, Nat.reduceAdd, Nat.reduceSub, Nat.reduceMul, Nat.reduceLeDiff, Nat.reduceLT, Nat.reduceEqDiff, Int.reduceToNat, Int.reduceAdd, Int.reduceMul, Int.reduceSub, Int.reduceLT, Int.reduceLE, Int.reduceEq, Int.reduceNeg, Int.reduceBEq, Int.reduceBNe, ↓reduceIte, reduceCtorEq, h2] <;> try simp (disch := omega) only [wrap_of])) | (refine hn _ _ ?_; clear hn hp Kn Kp) | (refine hp _ _ _ ?_; clear hn hp Kn Kp) | (refine awp_cond rfl (fun hb => ?_) (fun hb => ?_) <;> (try simp only [decide_eq_true_eq, decide_eq_false_iff_not, Bool.not_eq_true', Bool.not_eq_false', Bool.true_eq_false, Bool.false_eq_true, beq_iff_eq, bne_iff_ne, bne_eq_false_iff_eq, beq_eq_false_iff_ne, gt_iff_lt, ge_iff_le, Int.reduceEq, Int.reduceNe, Int.reduceLT, Int.reduceLE, ne_eq, not_true_eq_false, not_false_eq_true] at hb)) | ((first | refine awg_split (fun hb => ?_) (fun hb => ?_) | refine awsg_split (fun hb => ?_) (fun hb => ?_)) <;> have hb0 := hb <;> (try simp only [decide_eq_true_eq, decide_eq_false_iff_not, Bool.not_eq_true', Bool.not_eq_false', Bool.true_eq_false, Bool.false_eq_true, beq_iff_eq, bne_iff_ne, bne_eq_false_iff_eq, beq_eq_false_iff_ne, gt_iff_lt, ge_iff_le, Int.reduceEq, Int.reduceNe, Int.reduceLT, Int.reduceLE, ne_eq, not_true_eq_false, not_false_eq_true] at hb0) <;> (try simp only [beq_true, beq_false, Bool.not_eq_true', Bool.not_eq_false'] at hb) <;> (simp only [go_sem, Nat.reduceAdd, Nat.reduceSub, Nat.reduceMul, Nat.reduceLeDiff, Nat.reduceLT, Nat.reduceEqDiff, Int.reduceToNat, Int.reduceAdd, Int.reduceMul, Int.reduceSub, Int.reduceLT, Int.reduceLE, Int.reduceEq, Int.reduceNeg, Int.reduceBEq, Int.reduceBNe, ↓reduceIte, reduceCtorEq, h2, hb, hb0] <;> try simp (disch := omega) only [wrap_of])) | (refine And.intro ?_ ?_) | refine awp_skip ?_ | refine awp_ret ?_ | refine awp_exit ?_ | refine awp_label ?_ | refine awloop_step ?_ | fail)
        all_goals first
          | omega
          | ((refine resX ?_; try exact True.intro))
    · have h2' : (s.kind == 2) = false := by simpa using h2
      simp only [h2, if_false]
      (refine ARun.intro Try.func79 rfl Try.call79 Try.ntmps79 Try.results79 ?_; simp only [List.length_cons, List.length_nil, List.length_map, Nat.reduceAdd, Nat.reduceSub, List.replicate_succ, List.replicate_zero, List.cons_append, List.nil_append])
      (have ww1 := h1'; have ww2 := h2'; refine wk ?_; clear ww1 ww2; (repeat' first | exact True.intro | refine Lf.mk ?_ ?_); all_goals intro hP)
      (refine resX ?_; try exact True.intro)
end Go.Proofs.Ytiifbdkedainnaa.Y

set_option maxHeartbeats 8000000
set_option maxRecDepth 20000
set_option linter.unusedVariables false
set_option linter.unusedSimpArgs false
namespace Go.Proofs.Ytiifbdkedainnaa.Y
open Go.Proofs.Ytiifbdkedainnaa.AL Go.Proofs Go
attribute [local irreducible] AWP AWL AWG AWR AWE AWX AWO AWSeq AWSG AWSR AWSO AWSE AWSF GoodP OGW OGR OGE OGX PGW PGR PGE Wk AWLoop AWPD AWLD
theorem dr34_7_U26 : Drawn Try.prog 7 (regOps 7 ((Try.f34.body).getD .skip)) [6] [] [.win [0], .win [0], .win [0], .win [0], .win [0], .win [0], .eff 0, .win [1]] 1 [] := ⟨rfl, by as_aux_lemma => kernel_rfl⟩

theorem Rstmts_run (l : List Vr) (us : List Un) (hks : ksL l = some us) : ∀ (N : Nat) (t : List St), totL t ≤ N → ∀ (H0 : List AObj), ARun Try.prog 67 [.rs 5 (l.map encV), .rs 13 (t.map encS)] H0 (.ret (.i (stSL us t)) H0) := by
  intro N
  induction N with
  | zero =>
    intro t hN H0
    have hl : t = [] := by have := len_totL t; exact List.eq_nil_of_length_eq_zero (by omega)
    subst hl
    (refine ARun.intro Try.func67 rfl Try.call67 Try.ntmps67 Try.results67 ?_; simp only [List.length_cons, List.length_nil, List.length_map, Nat.reduceAdd, Nat.reduceSub, List.replicate_succ, List.replicate_zero, List.cons_append, List.nil_append])
    (refine wk ?_; (repeat' first | exact True.intro | refine Lf.mk ?_ ?_); all_goals intro hP)
    refine awp_loop 1 ?_
    unfold AWLoop
    (refine wk ?_; (repeat' first | exact True.intro | refine Lf.mk ?_ ?_); all_goals intro hP)
    (refine resX ?_; try exact True.intro)
    all_goals simp [stSL]
  | succ N ihN =>
    intro t hN H0
    (refine ARun.intro Try.func67 rfl Try.call67 Try.ntmps67 Try.results67 ?_; simp only [List.length_cons, List.length_nil, List.length_map, Nat.reduceAdd, Nat.reduceSub, List.replicate_succ, List.replicate_zero, List.cons_append, List.nil_append])
    refine awp_len 1 rfl fun hlen => ?_
    rw [List.length_map] at hlen
    (refine wk ?_; (repeat' first | exact True.intro | refine Lf.mk ?_ ?_); all_goals intro hP)
    refine awp_loop_ind (σ := Nat) (fun s => t.length - s) (fun s => s ≤ t.length ∧ stSL us t = stSL us (t.drop s))
      (fun s => (.rs 5 (l.map encV) :: .rs 13 (t.map encS) :: .any :: .any :: .any :: .i s :: .any :: .any :: .any :: .any :: .any :: .any :: .any :: .any :: .any :: .any :: .any :: .any :: .any :: .any :: .any :: .any :: []))
      (fun s => H0) 0 ⟨Nat.zero_le _, by simp⟩ (by (refine fgtX ?_; try exact True.intro)) ?_
    rintro i ⟨h1, h4⟩
    cases hr : t.drop i with
    | nil =>
      have hlt := drop_nil hr
      rw [hr, stSL] at h4
      (have ww1 := hlt; refine wk ?_; clear ww1; (repeat' first | exact True.intro | refine Lf.mk ?_ ?_); all_goals intro hP)
      (refine resX ?_; try exact True.intro)
      rw [h4]
    | cons k rest =>
      obtain ⟨hk, hlt, hd, hm⟩ := drop_cons hr
      have hmm := totL_mem hm
      rw [tot_eq] at hmm
      have hs := fun H0 => Rstmt_run l us hks k (fun H0 => ihN k.thn (by omega) H0) (fun H0 => ihN k.els (by omega) H0) H0
      rw [hr] at h4
      simp only [stSL] at h4
      by_cases h0 : stS us k = 0
      · have h0' : (stS us k != 0) = false := by simp [h0]
        rw [if_pos h0] at h4
        (have ww1 := hlt; have ww2 := hk; have ww3 := @encS_eq; have ww4 := h0'; have cc1 := fun z1 => hs z1; refine wk ?_; clear ww1 ww2 ww3 ww4 cc1; (repeat' first | exact True.intro | refine Lf.mk ?_ ?_); all_goals intro hP)
        refine ⟨i + 1, by omega, ⟨by omega, by rw [h4, hd]⟩, ?_⟩
        (refine dropX ?_; try exact True.intro)
        simp [wrap_of (n := (i : Int) + 1) (by omega) (by omega)]
      · have h0' : (stS us k != 0) = true := by simpa using h0
        rw [if_neg h0] at h4
        (have ww1 := hlt; have ww2 := hk; have ww3 := @encS_eq; have ww4 := h0'; have cc1 := fun z1 => hs z1; refine wk ?_; clear ww1 ww2 ww3 ww4 cc1; (repeat' first | exact True.intro | refine Lf.mk ?_ ?_); all_goals intro hP)
        (refine resX ?_; try exact True.intro)
        rw [h4]

theorem RHandler_run (l : List Vr) (us : List Un) (hks : ksL l = some us) (t : List St) (hM : manyL t ≤ 1100000) (H0 : List AObj) : ARun Try.prog 59 [.rs 5 (l.map encV), .rs 13 (t.map encS)] H0 (.ret (.i (handS us t)) H0) := by
  have hm := fun H0 => RMany_run _ t (Nat.le_refl _) hM 100 H0 (by omega) (by omega)
  have hg := mnL_gt t 100
  have hs := fun H0 => RShort_run _ t (Nat.le_refl _) H0
  have ht := fun H0 => Rstmts_run l us hks _ t (Nat.le_refl _) H0
  unfold handS
  by_cases h : 100 < mnL t 100 0
  · have : 100 < manyL t := by omega
    simp only [this, if_true]
    (refine ARun.intro Try.func59 rfl Try.call59 Try.ntmps59 Try.results59 ?_; simp only [List.length_cons, List.length_nil, List.length_map, Nat.reduceAdd, Nat.reduceSub, List.replicate_succ, List.replicate_zero, List.cons_append, List.nil_append])
    (have ww1 := h; have cc1 := fun z1 => hm z1; refine wk ?_; clear ww1 cc1; (repeat' first | exact True.intro | refine Lf.mk ?_ ?_); all_goals intro hP)
    (refine resX ?_; try exact True.intro)
  · have : ¬ 100 < manyL t := by omega
    simp only [this, if_false]
    cases hS : smSL t with
    | false =>
      simp only [hS] at hs
      (refine ARun.intro Try.func59 rfl Try.call59 Try.ntmps59 Try.results59 ?_; simp only [List.length_cons, List.length_nil, List.length_map, Nat.reduceAdd, Nat.reduceSub, List.replicate_succ, List.replicate_zero, List.cons_append, List.nil_append])
      (have ww1 := h; have cc1 := fun z1 => hm z1; have cc2 := fun z1 => hs z1; refine wk ?_; clear ww1 cc1 cc2; (repeat' first | exact True.intro | refine Lf.mk ?_ ?_); all_goals intro hP)
      (refine resX ?_; try exact True.intro)
    | true =>
      simp only [hS] at hs
      (refine ARun.intro Try.func59 rfl Try.call59 Try.ntmps59 Try.results59 ?_; simp only [List.length_cons, List.length_nil, List.length_map, Nat.reduceAdd, Nat.reduceSub, List.replicate_succ, List.replicate_zero, List.cons_append, List.nil_append])
      (have ww1 := h; have cc1 := fun z1 => hm z1; have cc2 := fun z1 => hs z1; have cc3 := fun z1 => ht z1; refine wk ?_; clear ww1 cc1 cc2 cc3; (repeat' first | exact True.intro | refine Lf.mk ?_ ?_); all_goals intro hP)
      (refine resX ?_; try exact True.intro)

theorem RCheck_run (p : Prg) (hp : fine1 p) (H0 : List AObj) : ARun Try.prog 34 [.ag (cP p)] H0 (.ret (ansC (checkS p)) H0) := by
  obtain ⟨q0, q1, q2, q3, q4, q5⟩ := hp
  have hv := fun H0 => RVars_run p.vars q5 H0
  unfold varsB at hv
  unfold checkS
  cases hks : ksL p.vars with
  | none =>
    simp only [hks] at hv
    (refine ARun.intro Try.func34 rfl Try.call34 Try.ntmps34 Try.results34 ?_; simp only [List.length_cons, List.length_nil, List.length_map, Nat.reduceAdd, Nat.reduceSub, List.replicate_succ, List.replicate_zero, List.cons_append, List.nil_append])
    (have rr1 := dr34_7_U26; have cc1 := fun z1 => hv z1; refine wk ?_; clear rr1 cc1; (repeat' first | exact True.intro | refine Lf.mk ?_ ?_); all_goals intro hP)
    (refine resX ?_; try exact True.intro)
    all_goals simp [ansC]
  | some us =>
    simp only [hks] at hv
    by_cases h12 : 12 < p.vars.length
    · have h12' : decide ((p.vars.length : Int) ≤ 12) = false := by simp; omega
      simp only [h12, if_true]
      (refine ARun.intro Try.func34 rfl Try.call34 Try.ntmps34 Try.results34 ?_; simp only [List.length_cons, List.length_nil, List.length_map, Nat.reduceAdd, Nat.reduceSub, List.replicate_succ, List.replicate_zero, List.cons_append, List.nil_append])
      (have rr1 := dr34_7_U26; have ww1 := h12'; have cc1 := fun z1 => hv z1; refine wk ?_; clear rr1 ww1 cc1; (repeat' first | exact True.intro | refine Lf.mk ?_ ?_); all_goals intro hP)
      (refine resX ?_; try exact True.intro)
      all_goals simp [ansC]
    · have h12' : decide ((p.vars.length : Int) ≤ 12) = true := by simp; omega
      simp only [h12, if_false]
      have c0 := fun H0 => RHandler_run p.vars us hks p.on0 q0 H0
      have c1 := fun H0 => RHandler_run p.vars us hks p.on1 q1 H0
      have c2 := fun H0 => RHandler_run p.vars us hks p.on2 q2 H0
      have c3 := fun H0 => RHandler_run p.vars us hks p.on3 q3 H0
      have c4 := fun H0 => RHandler_run p.vars us hks p.on4 q4 H0
      unfold evS
      (refine ARun.intro Try.func34 rfl Try.call34 Try.ntmps34 Try.results34 ?_; simp only [List.length_cons, List.length_nil, List.length_map, Nat.reduceAdd, Nat.reduceSub, List.replicate_succ, List.replicate_zero, List.cons_append, List.nil_append])
      (have rr1 := dr34_7_U26; have ww1 := h12'; have cc1 := fun z1 => hv z1; refine wk ?_; clear rr1 ww1 cc1; (repeat' first | exact True.intro | refine Lf.mk ?_ ?_); all_goals intro hP)
      refine awp_loop 6 ?_
      (have rr1 := dr34_7_U26; have cc1 := fun z1 => c0 z1; have cc2 := fun z1 => c1 z1; have cc3 := fun z1 => c2 z1; have cc4 := fun z1 => c3 z1; have cc5 := fun z1 => c4 z1; refine wk ?_; clear rr1 cc1 cc2 cc3 cc4 cc5; (repeat' first | exact True.intro | refine Lf.mk ?_ ?_); all_goals intro hP)
      all_goals
        (refine resX ?_; try exact True.intro)
        simp [ansC, *]

def usableB (l : List Vr) (a b : Ex) : Bool := decide (l.length ≤ 30) && decide (size a 60 + size b 60 ≤ 59)
end Go.Proofs.Ytiifbdkedainnaa.Y

/- Plain laws: both ways to say which programs are valid. -/
set_option linter.unusedVariables false
namespace Go.Proofs.Ytiifbdkedainnaa.AL
theorem eqB_eq (a b : ByteArray) : eqB a b = true ↔ a = b := by
  unfold eqB
  rw [beq_iff_eq, ByteArray.toList_eq, ByteArray.toList_eq]
  constructor
  · intro h
    obtain ⟨x⟩ := a
    obtain ⟨y⟩ := b
    have : x = y := by cases x; cases y; simpa using h
    rw [this]
  · rintro rfl; rfl
def varC (v : Vr) : Bool := nameB v.name && decide (0 ≤ v.low ∧ v.low ≤ v.init ∧ v.init ≤ v.high ∧ v.high ≤ 1000000000)
def seenM (l : List ByteArray) : List (ByteArray × Value) := l.map fun s => (s, .bool true)
theorem findS_seen : ∀ (l : List ByteArray) (s : ByteArray) (i : Nat), (findS (seenM l) s i).map (·.2) = if inB l s = true then some (.bool true) else none
  | [], s, i => by simp [seenM, findS, inB]
  | w :: l, s, i => by
    have ih := findS_seen l s (i + 1)
    unfold seenM at ih ⊢
    rw [List.map_cons, findS]
    by_cases h : s = w
    · have : eqB w s = true := (eqB_eq w s).2 h.symm
      rw [if_pos h]
      simp [inB, this]
    · have : eqB w s = false := by rw [Bool.eq_false_iff]; intro h2; exact h ((eqB_eq w s).1 h2).symm
      rw [if_neg h, ih]
      simp [inB, this]
theorem lookS_seen (l : List ByteArray) (s : ByteArray) (z : Value) : (lookS (seenM l) s).getD z = if inB l s = true then .bool true else z := by
  unfold lookS
  rw [findS_seen]
  split <;> rfl
theorem putS_seen (l : List ByteArray) (s : ByteArray) (h : inB l s = false) : putS (seenM l) s (.bool true) = seenM (l ++ [s]) := by
  have := findS_seen l s 0
  rw [h] at this
  simp only [Bool.false_eq_true, if_false, Option.map_eq_none_iff] at this
  unfold putS
  rw [this]
  simp [seenM]
/-- The loop over the variables. -/
def onceC : List Vr → List ByteArray → Bool
  | [], _ => true
  | v :: r, seen => !(inB seen v.name) && (varC v && onceC r (seen ++ [v.name]))
theorem onceC_eq : ∀ (l : List Vr) (seen : List ByteArray), onceC l seen = (l.all varC && onceB l seen)
  | [], _ => rfl
  | v :: r, seen => by
    rw [onceC, onceC_eq r, onceB, List.all_cons]
    cases inB seen v.name <;> cases varC v <;> cases r.all varC <;> simp
theorem ksL_unit : ∀ {l : List Vr} {us : List Un}, ksL l = some us → ∀ v ∈ l, 0 ≤ v.unit ∧ v.unit ≤ 4
  | [], _, _, v, hv => by cases hv
  | x :: l, us, h, v, hv => by
    rw [ksL] at h
    cases hx : ofK x.unit with
    | none => rw [hx] at h; cases h
    | some u =>
      rw [hx] at h
      cases hl : ksL l with
      | none => rw [hl] at h; cases h
      | some us' =>
        rcases List.mem_cons.1 hv with rfl | hv
        · unfold ofK at hx
          repeat' (split at hx)
          all_goals first | omega | cases hx
        · exact ksL_unit hl v hv
theorem checkS_ok (p : Prg) : ((checkS p).1 < 0 ∧ (checkS p).2 = 0) ↔ checkS p = (-1, 0) := by
  constructor
  · rintro ⟨h1, h2⟩
    unfold checkS at *
    split at h1
    · simp at h1
    · split at h1
      · simp at h1
      · rename_i hv h12
        simp only [hv, h12, if_false]
        unfold evS at *
        repeat' (split at h1)
        all_goals first | (simp at h1; done) | (simp_all)
  · intro h; rw [h]; decide
/-- What control.Valid says. -/
def ctlB (p : Prg) : Bool :=
  decide (1 ≤ p.vars.length) && (decide (p.vars.length ≤ 12) && (nameB p.name && (onceC p.vars [] && (decide ((checkS p).1 < 0) && (decide ((checkS p).2 = 0) && (usesB p.vars p.window 1 && (decide (p.pace = -1) || usesB p.vars p.pace 4)))))))
theorem ctlB_eq (p : Prg) : ctlB p = validB p := by
  have hc := checkS_ok p
  unfold ctlB validB
  rw [onceC_eq, Bool.eq_iff_iff]
  simp only [Bool.and_eq_true, decide_eq_true_eq]
  have hvar : checkS p = (-1, 0) → (p.vars.all varC = true ↔ p.vars.all varB = true) := by
    intro h
    cases hk : ksL p.vars with
    | none => unfold checkS at h; rw [hk] at h; simp at h
    | some us =>
      have hu := ksL_unit hk
      rw [List.all_eq_true, List.all_eq_true]
      constructor
      · intro h v hv
        have := hu v hv
        have := h v hv
        unfold varC at this
        unfold varB
        simp only [Bool.and_eq_true, decide_eq_true_eq] at this ⊢
        exact ⟨this.1, by omega⟩
      · intro h v hv
        have := h v hv
        unfold varB at this
        unfold varC
        simp only [Bool.and_eq_true, decide_eq_true_eq] at this ⊢
        exact ⟨this.1, by omega⟩
  constructor
  · rintro ⟨h1, h2, h3, ⟨h4, h5⟩, h6, h7, h8⟩
    have h9 := hc.1 ⟨h6, h7⟩
    exact ⟨h3, h1, h2, (hvar h9).1 h4, h5, h9, h8⟩
  · rintro ⟨h3, h1, h2, h4, h5, h9, h8⟩
    have := hc.2 h9
    exact ⟨h1, h2, h3, ⟨(hvar h9).2 h4, h5⟩, this.1, this.2, h8⟩
/-- The reference's loop over the variables. -/
def oneR (all : List Vr) : List Vr → Nat → Bool
  | [], _ => true
  | v :: r, k => varB v && (decide (findV all v.name 0 = k) && oneR all r (k + 1))
theorem findV_app (l : List Vr) (s : ByteArray) : ∀ (pre : List Vr) (i : Int), (inB (pre.map (·.name)) s = false → findV (pre ++ l) s i = findV l s (i + pre.length)) ∧ (inB (pre.map (·.name)) s = true → findV (pre ++ l) s i < i + pre.length)
  | [], i => by simp [inB]
  | v :: pre, i => by
    obtain ⟨h1, h2⟩ := findV_app l s pre (i + 1)
    have e : inB ((v :: pre).map (·.name)) s = (eqB v.name s || inB (pre.map (·.name)) s) := by simp [inB]
    rw [e, List.cons_append, findV, List.length_cons]
    cases hq : eqB v.name s with
    | true => simp; omega
    | false =>
      simp only [Bool.false_or, Bool.false_eq_true, if_false]
      refine ⟨fun h => ?_, fun h => ?_⟩
      · rw [h1 h]; congr 1; push_cast; omega
      · have := h2 h; push_cast; omega
theorem oneR_eq : ∀ (l pre : List Vr), oneR (pre ++ l) l pre.length = (l.all varB && onceB l (pre.map (·.name)))
  | [], pre => rfl
  | v :: l, pre => by
    have ih := oneR_eq l (pre ++ [v])
    rw [List.append_assoc, List.singleton_append, List.length_append, List.map_append] at ih
    rw [oneR, onceB, List.all_cons]
    simp only [List.length_cons, List.length_nil, List.map_cons, List.map_nil, Nat.zero_add] at ih
    rw [ih]
    obtain ⟨h1, h2⟩ := findV_app (v :: l) v.name pre 0
    cases hq : inB (pre.map (·.name)) v.name with
    | true =>
      have := h2 hq
      rw [decide_eq_false (by omega)]
      simp
    | false =>
      rw [h1 hq, findV, if_pos ((eqB_eq _ _).2 rfl), decide_eq_true (by omega)]
      cases varB v <;> cases l.all varB <;> simp
theorem oneR_all (l : List Vr) : oneR l l 0 = (l.all varB && onceB l []) := oneR_eq l []
end Go.Proofs.Ytiifbdkedainnaa.AL

set_option maxHeartbeats 8000000
set_option maxRecDepth 100000
set_option linter.unusedVariables false
set_option linter.unusedSimpArgs false
set_option linter.unusedSectionVars false
namespace Go.Proofs.Ytiifbdkedainnaa.Y
open Go.Proofs.Ytiifbdkedainnaa.AL Go.Proofs Go
attribute [local irreducible] AWP AWL AWG AWR AWE AWX AWO AWSeq AWSG AWSR AWSO AWSE AWSF GoodP OGW OGR OGE OGX PGW PGR PGE Wk AWLoop AWPD AWLD

theorem hasUnit_run (l : List Vr) (k u : Int) (hl : l.length ≤ 2000000) (H0 : List AObj) :
    ARun Try.prog 43 [.rs 5 (l.map encV), .i k, .i u] H0 (.ret (.b (usesB l k u)) H0) := by
  by_cases hk : 0 ≤ k ∧ k < l.length
  · have hlt : k.toNat < l.length := by omega
    have hv := getEV hlt
    have hl' : (l.map encV)[k.toNat]? = some (cV (l.getD k.toNat dV)) := by rw [List.getElem?_map, hv]; rfl
    (refine ARun.intro Try.func43 rfl Try.call43 Try.ntmps43 Try.results43 ?_; simp only [List.length_cons, List.length_nil, List.length_map, Nat.reduceAdd, Nat.reduceSub, List.replicate_succ, List.replicate_zero, List.cons_append, List.nil_append])
    (have ww1 := hl'; refine wkO ?_; clear ww1; (repeat' first | exact True.intro | refine Lf.mk ?_ ?_); all_goals intro hP)
    all_goals ((refine resX ?_; try exact True.intro))
    all_goals (unfold usesB; rw [hv]; simp [hk])
  · (refine ARun.intro Try.func43 rfl Try.call43 Try.ntmps43 Try.results43 ?_; simp only [List.length_cons, List.length_nil, List.length_map, Nat.reduceAdd, Nat.reduceSub, List.replicate_succ, List.replicate_zero, List.cons_append, List.nil_append])
    (refine wkO ?_; (repeat' first | exact True.intro | refine Lf.mk ?_ ?_); all_goals intro hP)
    all_goals ((refine resX ?_; try exact True.intro))
    all_goals (unfold usesB; rw [decide_eq_false hk, Bool.false_and])
theorem zeroBool : aZero1 Try.prog 4 = some (.bool false) := by kernel_rfl
end Go.Proofs.Ytiifbdkedainnaa.Y

set_option maxHeartbeats 8000000
set_option maxRecDepth 100000
set_option linter.unusedVariables false
set_option linter.unusedSimpArgs false
set_option linter.unusedSectionVars false
namespace Go.Proofs.Ytiifbdkedainnaa.Y
open Go.Proofs.Ytiifbdkedainnaa.AL Go.Proofs Go
attribute [local irreducible] AWP AWL AWG AWR AWE AWX AWO AWSeq AWSG AWSR AWSO AWSE AWSF GoodP OGW OGR OGE OGX PGW PGR PGE Wk AWLoop AWPD AWLD

/-- A writer's cells and its row. -/
abbrev wC (rid n : Nat) : AObj := .cells 58 [.os rid 0 n n]
abbrev iR (acc : List Ins) : AObj := .arr 41 3 (pvRows (acc.map encI))
theorem wadd_run (wid rid : Nat) (hne : wid ≠ rid) (acc : List Ins) (o n r : Int) (hacc : acc.length ≤ 1000000000) (H0 : List AObj) (hw : H0[wid]? = some (wC rid acc.length)) (hr : H0[rid]? = some (iR acc)) :
    ARun Try.prog 44 [.p wid 0, .i o, .i n, .i r] H0 (.ret (.i acc.length) ((H0.set rid (iR (acc ++ [⟨o, n, r⟩]))).set wid (wC rid (acc.length + 1)))) := by
  have g1 : ∀ L, (H0 ++ L)[wid]? = some (wC rid acc.length) := getOut hw
  have g2 : ∀ L, (H0 ++ L)[rid]? = some (iR acc) := getOut hr
  have s1 : ∀ L x, (H0 ++ L).set rid x = H0.set rid x ++ L := fun L x => setOut hr L x
  have g3 : ∀ x, (H0.set rid x)[wid]? = some (wC rid acc.length) := fun x => by rw [List.getElem?_set_ne (Ne.symm hne)]; exact hw
  have g4 : ∀ x L, (H0.set rid x ++ L)[wid]? = some (wC rid acc.length) := fun x L => getOut (g3 x) L
  have s2 : ∀ x y L, (H0.set rid x ++ L).set wid y = (H0.set rid x).set wid y ++ L := fun x y L => setOut (g3 x) L y
  have g5 : ∀ x y L, ((H0.set rid x).set wid y ++ L)[wid]? = some y := fun x y L => getSetL (g3 x) y L
  have g6 : ∀ x y L, ((H0.set rid x).set wid y ++ L)[rid]? = some x := fun x y L => getOut (by rw [List.getElem?_set_ne hne]; exact getSet hr x) L
  have hlen2 : (pvRows ((acc ++ [(⟨o, n, r⟩ : Ins)]).map encI)).length = acc.length + 1 := by simp [pvRows]
  have hf1 : (acc.length + 1) * 24 ≤ 140737488355328 := by omega
  have hf2 : acc.length + 1 ≤ 9223372036854775807 := by omega
  have hap : pvRows (acc.map encI) ++ [[.i o, .i n, .i r]] = pvRows ((acc ++ [(⟨o, n, r⟩ : Ins)]).map encI) := by simp [pvRows, encI, cI]
  have hlen : (pvRows (acc.map encI)).length = acc.length := by simp [pvRows]
  have hw1 : IntKind.i64.wrap (((acc.length + 1 : Nat) : Int) - 1) = (acc.length : Int) := by rw [wrap_of (by omega) (by omega)]; omega
  have hrl : rid < H0.length := (List.getElem?_eq_some_iff.1 hr).1
  (refine ARun.intro Try.func44 rfl Try.call44 Try.ntmps44 Try.results44 ?_; simp only [List.length_cons, List.length_nil, List.length_map, Nat.reduceAdd, Nat.reduceSub, List.replicate_succ, List.replicate_zero, List.cons_append, List.nil_append])
  (have ww1 := hw; have ww2 := hr; have ww3 := g3; have ww4 := g1; have ww5 := g2; have ww6 := s1; have ww7 := g4; have ww8 := s2; have ww9 := g5; have ww10 := g6; have ww11 := hf1; have ww12 := hf2; have ww13 := hap; have ww14 := hlen; have ww15 := hlen2; have ww16 := hw1; refine wkS ?_; clear ww1 ww2 ww3 ww4 ww5 ww6 ww7 ww8 ww9 ww10 ww11 ww12 ww13 ww14 ww15 ww16; (repeat' first | exact True.intro | refine Lf.mk ?_ ?_); all_goals intro hP)
  ((try simp only [go_sem, Nat.reduceAdd, Nat.reduceSub, Nat.reduceMul, Nat.reduceLeDiff, Nat.reduceLT, Nat.reduceEqDiff, Int.reduceToNat, Int.reduceAdd, Int.reduceMul, Int.reduceSub, Int.reduceLT, Int.reduceLE, Int.reduceEq, Int.reduceNeg, Int.reduceBEq, Int.reduceBNe, ↓reduceIte, reduceCtorEq]); (first | refine ⟨_, rfl, _, rfl, Fin.set20 1 ?_ ?_ ?_⟩ | refine ⟨_, rfl, _, rfl, Fin.set2 1 ?_ ?_ ?_⟩))
  · exact under_pvRows _
  · simp [AObj.under, AV.under, hrl]
  · simp only [AV.low]
end Go.Proofs.Ytiifbdkedainnaa.Y

set_option maxHeartbeats 8000000
set_option maxRecDepth 100000
set_option linter.unusedVariables false
set_option linter.unusedSimpArgs false
set_option linter.unusedSectionVars false
namespace Go.Proofs.Ytiifbdkedainnaa.Y
open Go.Proofs.Ytiifbdkedainnaa.AL Go.Proofs Go
attribute [local irreducible] AWP AWL AWG AWR AWE AWX AWO AWSeq AWSG AWSR AWSO AWSE AWSF GoodP OGW OGR OGE OGX PGW PGR PGE Wk AWLoop AWPD AWLD

/-- The memory with another code in the writer. -/
def mW (wid rid : Nat) (H : List AObj) (acc : List Ins) : List AObj := (H.set rid (iR acc)).set wid (wC rid acc.length)
/-- A writer lies in the memory. -/
structure Wr (wid rid : Nat) (H : List AObj) (acc : List Ins) : Prop where
  ne : wid ≠ rid
  w : H[wid]? = some (wC rid acc.length)
  r : H[rid]? = some (iR acc)
theorem mW_len (wid rid : Nat) (H : List AObj) (acc : List Ins) : (mW wid rid H acc).length = H.length := by simp [mW]
theorem Wr.app {wid rid : Nat} {H : List AObj} {acc : List Ins} (h : Wr wid rid H acc) (L : List AObj) : Wr wid rid (H ++ L) acc := ⟨h.ne, getOut h.w L, getOut h.r L⟩
theorem Wr.to {wid rid : Nat} {H : List AObj} {acc : List Ins} (h : Wr wid rid H acc) (acc' : List Ins) : Wr wid rid (mW wid rid H acc') acc' := by
  refine ⟨h.ne, ?_, ?_⟩
  · unfold mW
    exact getSet (o := wC rid acc.length) (by rw [List.getElem?_set_ne (Ne.symm h.ne)]; exact h.w) _
  · unfold mW
    rw [List.getElem?_set_ne h.ne]
    exact getSet h.r _
theorem Wr.mApp {wid rid : Nat} {H : List AObj} {acc : List Ins} (h : Wr wid rid H acc) (acc' : List Ins) (L : List AObj) : mW wid rid (H ++ L) acc' = mW wid rid H acc' ++ L := by
  unfold mW
  rw [setOut h.r, setOut (o := wC rid acc.length) (by rw [List.getElem?_set_ne (Ne.symm h.ne)]; exact h.w)]
theorem Wr.mm {wid rid : Nat} {H : List AObj} {acc : List Ins} (h : Wr wid rid H acc) (a b : List Ins) : mW wid rid (mW wid rid H a) b = mW wid rid H b := by
  unfold mW
  rw [List.set_comm _ _ h.ne, List.set_set, List.set_set]
theorem wadd (wid rid : Nat) (acc : List Ins) (o n r : Int) (hacc : acc.length ≤ 1000000000) (H0 : List AObj) (h : Wr wid rid H0 acc) :
    ARun Try.prog 44 [.p wid 0, .i o, .i n, .i r] H0 (.ret (.i acc.length) (mW wid rid H0 (acc ++ [⟨o, n, r⟩]))) := by
  have := wadd_run wid rid h.ne acc o n r hacc H0 h.w h.r
  unfold mW
  simpa using this
theorem mW_get0 (wid rid : Nat) (H : List AObj) (X : List Ins) (o : AObj) (L : List AObj) : (mW wid rid H X ++ o :: L)[H.length]? = some o := by
  have := getO0 (mW wid rid H X) o L; rwa [mW_len] at this
theorem mW_getk (wid rid : Nat) (H : List AObj) (X : List Ins) (L : List AObj) (k : Nat) : (mW wid rid H X ++ L)[H.length + k]? = L[k]? := by
  have := getOk (mW wid rid H X) L k; rwa [mW_len] at this
theorem mW_set0 (wid rid : Nat) (H : List AObj) (X : List Ins) (o x : AObj) (L : List AObj) : (mW wid rid H X ++ o :: L).set H.length x = mW wid rid H X ++ x :: L := by
  have := setO0 (mW wid rid H X) o x L; rwa [mW_len] at this
theorem mW_setk (wid rid : Nat) (H : List AObj) (X : List Ins) (L : List AObj) (k : Nat) (x : AObj) : (mW wid rid H X ++ L).set (H.length + k) x = mW wid rid H X ++ L.set k x := by
  have := setOk (mW wid rid H X) L k x; rwa [mW_len] at this
theorem wexpr_run {vs : List Un} (wid rid : Nat) (e : Ex) : ∀ u, inf vs e = .ok u → ∀ (acc : List Ins) (H0 : List AObj), acc.length + (codeE e).length ≤ 1000000000 → Wr wid rid H0 acc →
    ARun Try.prog 45 [.p wid 0, .ag (cE e)] H0 (.ret (.tup []) (mW wid rid H0 (acc ++ codeE e))) := by
  induction e using Ex.ind with
  | h e ih =>
    intro u hu acc H0 hlen hW
    have m0 := mW_get0 wid rid H0
    have mk := mW_getk wid rid H0
    have n0 := mW_set0 wid rid H0
    have nk := mW_setk wid rid H0
    have ml := mW_len wid rid H0
    rcases inf_grants hu with ⟨hk, hop⟩ | ⟨a, b, x, y, hk, h1, h2, ha, hb0⟩
    · obtain ⟨op, n, un, kids⟩ := e
      simp only [Ex.kids, Ex.op, Ex.n, Ex.unit] at *
      subst hk
      have hc : codeE (.mk op n un []) = [⟨op, n, 0⟩] := by simp [codeE]
      rw [hc] at hlen ⊢
      have ca : ∀ L, ARun Try.prog 44 [.p wid 0, .i op, .i n, .i 0] (H0 ++ L) (.ret (.i acc.length) (mW wid rid H0 (acc ++ [⟨op, n, 0⟩]) ++ L)) := fun L => by
        rw [← hW.mApp]; exact wadd wid rid acc op n 0 (by simp at hlen; omega) (H0 ++ L) (hW.app L)
      have hop' : op = 1 ∨ op = 2 ∨ op = 3 := by omega
      clear hop hu ih
      show ARun Try.prog 45 [.p wid 0, .ag [.i op, .i n, .i un, .rs 4 []]] H0 _
      rcases hop' with rfl | rfl | rfl
      all_goals
        (refine ARun.intro Try.func45 rfl Try.call45 Try.ntmps45 Try.results45 ?_; simp only [List.length_cons, List.length_nil, List.length_map, Nat.reduceAdd, Nat.reduceSub, List.replicate_succ, List.replicate_zero, List.cons_append, List.nil_append])
        (refine wkS ?_; (repeat' first | exact True.intro | refine Lf.mk ?_ ?_); all_goals intro hP)
        refine awp_loop 1 ?_
        (have ww1 := m0; have ww2 := mk; have ww3 := n0; have ww4 := nk; have ww5 := ml; have cc1 := fun z1 => ca z1; refine wkS ?_; clear ww1 ww2 ww3 ww4 ww5 cc1; (repeat' first | exact True.intro | refine Lf.mk ?_ ?_); all_goals intro hP)
        (unfold mW; ((try simp only [go_sem, Nat.reduceAdd, Nat.reduceSub, Nat.reduceMul, Nat.reduceLeDiff, Nat.reduceLT, Nat.reduceEqDiff, Int.reduceToNat, Int.reduceAdd, Int.reduceMul, Int.reduceSub, Int.reduceLT, Int.reduceLE, Int.reduceEq, Int.reduceNeg, Int.reduceBEq, Int.reduceBNe, ↓reduceIte, reduceCtorEq]); (first | refine ⟨_, rfl, _, rfl, Fin.set20 1 ?_ ?_ ?_⟩ | refine ⟨_, rfl, _, rfl, Fin.set2 1 ?_ ?_ ?_⟩)))
        · exact under_pvRows _
        · have := (List.getElem?_eq_some_iff.1 hW.r).1; simp [AObj.under, AV.under, this]
        · simp [AV.low]
    · obtain ⟨op, n, un, kids⟩ := e
      simp only [Ex.kids, Ex.op, Ex.n, Ex.unit] at *
      subst hk
      have hc : codeE (.mk op n un [a, b]) = codeE a ++ (codeE b ++ [⟨op, 0, 0⟩]) := by simp [codeE, codeEs]
      rw [hc] at hlen ⊢
      simp only [List.length_append, List.length_cons, List.length_nil] at hlen
      have cA : ∀ L, ARun Try.prog 45 [.p wid 0, .ag (cE a)] (H0 ++ L) (.ret (.tup []) (mW wid rid H0 (acc ++ codeE a) ++ L)) := fun L => by
        rw [← hW.mApp]; exact ih a (by simp [Ex.kids]) x ha acc (H0 ++ L) (by omega) (hW.app L)
      have cB : ∀ L, ARun Try.prog 45 [.p wid 0, .ag (cE b)] (mW wid rid H0 (acc ++ codeE a) ++ L) (.ret (.tup []) (mW wid rid H0 (acc ++ (codeE a ++ codeE b)) ++ L)) := fun L => by
        have h1 := hW.to (acc ++ codeE a)
        have := ih b (by simp [Ex.kids]) y hb0 (acc ++ codeE a) (mW wid rid H0 (acc ++ codeE a) ++ L) (by simp only [List.length_append]; omega) (h1.app L)
        rwa [h1.mApp, hW.mm, List.append_assoc] at this
      have cC : ∀ L, ARun Try.prog 44 [.p wid 0, .i op, .i 0, .i 0] (mW wid rid H0 (acc ++ (codeE a ++ codeE b)) ++ L) (.ret (.i (acc ++ (codeE a ++ codeE b)).length) (mW wid rid H0 (acc ++ (codeE a ++ (codeE b ++ [⟨op, 0, 0⟩]))) ++ L)) := fun L => by
        have h1 := hW.to (acc ++ (codeE a ++ codeE b))
        have e : acc ++ (codeE a ++ (codeE b ++ [(⟨op, 0, 0⟩ : Ins)])) = acc ++ (codeE a ++ codeE b) ++ [⟨op, 0, 0⟩] := by simp
        have := wadd wid rid _ op 0 0 (by simp only [List.length_append]; omega) _ (h1.app L)
        rwa [h1.mApp, hW.mm, ← e] at this
      have hop' : op = 4 ∨ op = 5 ∨ op = 6 ∨ op = 7 ∨ op = 8 ∨ op = 9 ∨ op = 10 := by omega
      clear hu ih h1 h2 hc hlen
      show ARun Try.prog 45 [.p wid 0, .ag [.i op, .i n, .i un, .rs 4 [encE a, encE b]]] H0 _
      rw [encE_eq a, encE_eq b]
      rcases hop' with rfl | rfl | rfl | rfl | rfl | rfl | rfl
      all_goals
        (refine ARun.intro Try.func45 rfl Try.call45 Try.ntmps45 Try.results45 ?_; simp only [List.length_cons, List.length_nil, List.length_map, Nat.reduceAdd, Nat.reduceSub, List.replicate_succ, List.replicate_zero, List.cons_append, List.nil_append])
        (refine wkS ?_; (repeat' first | exact True.intro | refine Lf.mk ?_ ?_); all_goals intro hP)
        refine awp_loop 3 ?_
        (have ww1 := m0; have ww2 := mk; have ww3 := n0; have ww4 := nk; have ww5 := ml; have cc1 := fun z1 => cA z1; have cc2 := fun z1 => cB z1; have cc3 := fun z1 => cC z1; refine wkS ?_; clear ww1 ww2 ww3 ww4 ww5 cc1 cc2 cc3; (repeat' first | exact True.intro | refine Lf.mk ?_ ?_); all_goals intro hP)
        (unfold mW; ((try simp only [go_sem, Nat.reduceAdd, Nat.reduceSub, Nat.reduceMul, Nat.reduceLeDiff, Nat.reduceLT, Nat.reduceEqDiff, Int.reduceToNat, Int.reduceAdd, Int.reduceMul, Int.reduceSub, Int.reduceLT, Int.reduceLE, Int.reduceEq, Int.reduceNeg, Int.reduceBEq, Int.reduceBNe, ↓reduceIte, reduceCtorEq]); (first | refine ⟨_, rfl, _, rfl, Fin.set20 1 ?_ ?_ ?_⟩ | refine ⟨_, rfl, _, rfl, Fin.set2 1 ?_ ?_ ?_⟩)))
        · exact under_pvRows _
        · have := (List.getElem?_eq_some_iff.1 hW.r).1; simp [AObj.under, AV.under, this]
        · simp [AV.low]
end Go.Proofs.Ytiifbdkedainnaa.Y

set_option maxHeartbeats 8000000
set_option maxRecDepth 100000
set_option linter.unusedVariables false
set_option linter.unusedSimpArgs false
set_option linter.unusedSectionVars false
namespace Go.Proofs.Ytiifbdkedainnaa.Y
open Go.Proofs.Ytiifbdkedainnaa.AL Go.Proofs Go
attribute [local irreducible] AWP AWL AWG AWR AWE AWX AWO AWSeq AWSG AWSR AWSO AWSE AWSF GoodP OGW OGR OGE OGX PGW PGR PGE Wk AWLoop AWPD AWLD
theorem dr46_0_X20n : Drawn Try.prog 0 (regOps 0 ((Try.f46.body).getD .skip)) [12] [] [.win [0], .win [0], .win [0], .win [0], .win [0], .win [0], .win [0], .win [0], .win [0], .win [0], .win [0], .win [0], .eff 0] 1 [] := ⟨rfl, by as_aux_lemma => kernel_rfl⟩

theorem whr_run (wid rid : Nat) (acc : List Ins) (k : Nat) (x : Ins) (hx : acc[k]? = some x) (hacc : acc.length ≤ 1000000000) (H0 : List AObj) (h : Wr wid rid H0 acc) :
    ARun Try.prog 46 [.p wid 0, .i k] H0 (.ret (.tup []) (mW wid rid H0 (acc.set k ⟨x.op, acc.length, x.rel⟩))) := by
  have hm : mW wid rid H0 (acc.set k ⟨x.op, acc.length, x.rel⟩) = H0.set rid (iR (acc.set k ⟨x.op, acc.length, x.rel⟩)) := by
    unfold mW
    have g3 : (H0.set rid (iR (acc.set k ⟨x.op, acc.length, x.rel⟩)))[wid]? = some (wC rid acc.length) := by rw [List.getElem?_set_ne (Ne.symm h.ne)]; exact h.w
    obtain ⟨h1, h2⟩ := List.getElem?_eq_some_iff.1 g3
    rw [List.length_set, ← h2]
    exact List.set_getElem_self h1
  rw [hm]
  have hw := h.w
  have hr := h.r
  have hrow : (pvRows (acc.map encI))[k]? = some [.i x.op, .i x.n, .i x.rel] := by simp [pvRows, hx, encI, cI]
  have hlen : (pvRows (acc.map encI)).length = acc.length := by simp [pvRows]
  have hk : k < acc.length := (List.getElem?_eq_some_iff.1 hx).1
  have hk1 : (k : Int) < (acc.length : Int) := by omega
  have hset : (pvRows (acc.map encI)).set k [.i x.op, .i acc.length, .i x.rel] = pvRows ((acc.set k ⟨x.op, acc.length, x.rel⟩).map encI) := by simp [pvRows, List.map_set, encI, cI]
  have ht : ((k : Int)).toNat = k := Int.toNat_natCast k
  (refine ARun.intro Try.func46 rfl Try.call46 Try.ntmps46 Try.results46 ?_; simp only [List.length_cons, List.length_nil, List.length_map, Nat.reduceAdd, Nat.reduceSub, List.replicate_succ, List.replicate_zero, List.cons_append, List.nil_append])
  (have rr1 := dr46_0_X20n; have ww1 := hw; have ww2 := hr; have ww3 := hrow; have ww4 := hlen; have ww5 := hk; have ww6 := hk1; have ww7 := hset; have ww8 := ht; refine wkS ?_; clear rr1 ww1 ww2 ww3 ww4 ww5 ww6 ww7 ww8; (repeat' first | exact True.intro | refine Lf.mk ?_ ?_); all_goals intro hP)
  ((try simp only [go_sem, Nat.reduceAdd, Nat.reduceSub, Nat.reduceMul, Nat.reduceLeDiff, Nat.reduceLT, Nat.reduceEqDiff, Int.reduceToNat, Int.reduceAdd, Int.reduceMul, Int.reduceSub, Int.reduceLT, Int.reduceLE, Int.reduceEq, Int.reduceNeg, Int.reduceBEq, Int.reduceBNe, ↓reduceIte, reduceCtorEq]); (first | refine ⟨_, rfl, _, rfl, Fin.set0 1 ?_ ?_⟩ | refine ⟨_, rfl, _, rfl, Fin.set 1 ?_ ?_⟩))
  · exact under_pvRows _
  · simp [AV.low]
end Go.Proofs.Ytiifbdkedainnaa.Y

set_option maxHeartbeats 8000000
set_option maxRecDepth 100000
set_option linter.unusedVariables false
set_option linter.unusedSimpArgs false
set_option linter.unusedSectionVars false
namespace Go.Proofs.Ytiifbdkedainnaa.Y
open Go.Proofs.Ytiifbdkedainnaa.AL Go.Proofs Go
attribute [local irreducible] AWP AWL AWG AWR AWE AWX AWO AWSeq AWSG AWSR AWSO AWSE AWSF GoodP OGW OGR OGE OGX PGW PGR PGE Wk AWLoop AWPD AWLD

theorem Wr.lift {wid rid : Nat} {H0 : List AObj} {acc : List Ins} (hW : Wr wid rid H0 acc) {f : FuncId} {args : List AV} {v : AV} {X Y : List Ins} (h : ∀ H, Wr wid rid H X → ARun Try.prog f args H (.ret v (mW wid rid H Y))) (L : List AObj) :
    ARun Try.prog f args (mW wid rid H0 X ++ L) (.ret v (mW wid rid H0 Y ++ L)) := by
  have h1 := hW.to X
  have := h _ (h1.app L)
  rwa [h1.mApp, hW.mm] at this
theorem Wr.fall {wid rid : Nat} {H0 L : List AObj} {X : List Ins} {tm tm' : List AV} (hr : rid < H0.length) (d : Nat) (ht : Fgt (tm.map fun c => c.low (mW wid rid H0 X ++ L) H0.length d) tm') :
    Wk H0 tm (mW wid rid H0 X ++ L) tm' (mW wid rid H0 X) := by
  refine Wk.to d ⟨Nat.le_refl _, by simp [mW_len], fun id o hid ho => ?_⟩ (by have := takeO (mW wid rid H0 X) L; rwa [mW_len] at this) ht
  rw [List.getElem?_append_left (by rw [mW_len]; exact hid)] at ho
  exact two_set (under_pvRows _) (by simp [AObj.under, AV.under, hr]) id o ho
theorem stSL_mem {vs : List Un} : ∀ {l : List St}, stSL vs l = 0 → ∀ s ∈ l, stS vs s = 0
  | [], _, s, hs => by cases hs
  | x :: l, h, s, hs => by
    simp only [stSL] at h
    split at h
    · rename_i hx
      rcases List.mem_cons.1 hs with rfl | hs
      · exact hx
      · exact stSL_mem h s hs
    · rename_i hx; exact absurd h hx
theorem wstmts_run {vs : List Un} (wid rid : Nat) : ∀ (N : Nat) (l : List St), manyL l ≤ N → stSL vs l = 0 → ∀ (acc : List Ins) (H0 : List AObj), acc.length + (codeSs l acc.length).length ≤ 1000000000 → manyL l ≤ 1000000000 → Wr wid rid H0 acc →
    ARun Try.prog 26 [.p wid 0, .rs 13 (l.map encS)] H0 (.ret (.tup []) (mW wid rid H0 (acc ++ codeSs l acc.length))) := by
  intro N
  induction N with
  | zero =>
    intro l hN hv acc H0 hlen hll hW
    have hl0 : l = [] := List.eq_nil_of_length_eq_zero (by have := len_manyL l; omega)
    subst hl0
    have hinit : mW wid rid H0 acc = H0 := by
      obtain ⟨a1, a2⟩ := List.getElem?_eq_some_iff.1 hW.r
      obtain ⟨b1, b2⟩ := List.getElem?_eq_some_iff.1 hW.w
      unfold mW
      rw [← a2, List.set_getElem_self, ← b2, List.set_getElem_self]
    rw [show acc ++ codeSs [] acc.length = acc from by simp [codeSs], hinit, List.map_nil]
    (refine ARun.intro Try.func26 rfl Try.call26 Try.ntmps26 Try.results26 ?_; simp only [List.length_cons, List.length_nil, List.length_map, Nat.reduceAdd, Nat.reduceSub, List.replicate_succ, List.replicate_zero, List.cons_append, List.nil_append])
    (refine wkS ?_; (repeat' first | exact True.intro | refine Lf.mk ?_ ?_); all_goals intro hP)
    refine awp_loop 1 ?_
    (refine wkS ?_; (repeat' first | exact True.intro | refine Lf.mk ?_ ?_); all_goals intro hP)
    (refine resX ?_; try exact True.intro)
  | succ N ih =>
    intro l hN hv acc H0 hlen hmb hW
    have hll : l.length ≤ 1000000000 := by have := len_manyL l; omega
    have m0 := mW_get0 wid rid H0
    have mk := mW_getk wid rid H0
    have n0 := mW_set0 wid rid H0
    have nk := mW_setk wid rid H0
    have ml := mW_len wid rid H0
    have hinit : mW wid rid H0 acc = H0 := by
      have := (List.getElem?_eq_some_iff.1 hW.r)
      obtain ⟨a1, a2⟩ := this
      have h2 := (List.getElem?_eq_some_iff.1 hW.w)
      obtain ⟨b1, b2⟩ := h2
      unfold mW
      rw [← a2, List.set_getElem_self, ← b2, List.set_getElem_self]
    (refine ARun.intro Try.func26 rfl Try.call26 Try.ntmps26 Try.results26 ?_; simp only [List.length_cons, List.length_nil, List.length_map, Nat.reduceAdd, Nat.reduceSub, List.replicate_succ, List.replicate_zero, List.cons_append, List.nil_append])
    (refine wkS ?_; (repeat' first | exact True.intro | refine Lf.mk ?_ ?_); all_goals intro hP)
    refine awp_loop_ind (σ := Nat × List Ins) (fun s => l.length - s.1) (fun s => s.1 ≤ l.length ∧ s.2 ++ codeSs (l.drop s.1) s.2.length = acc ++ codeSs l acc.length)
      (fun s => (.p wid 0 :: .any :: .any :: .any :: (.fn (.func 44) [.p wid 0] []) :: .any :: .any :: .any :: .any :: .any :: .any :: .rs 13 (l.map encS) :: .i l.length :: .i s.1 :: .any :: .any :: .any :: .any :: .any :: .any :: .any :: .any :: .any :: .any :: .any :: .any :: .any :: .any :: .any :: .any :: .any :: .any :: .any :: .any :: .any :: .any :: .any :: .any :: .any :: .any :: .any :: .any :: .any :: .any :: .any :: .any :: .any :: .any :: .any :: .any :: .any :: .any :: .any :: .any :: .any :: .any :: .any :: .any :: .any :: .any :: []))
      (fun s => mW wid rid H0 s.2) (0, acc) ⟨Nat.zero_le _, by simp⟩ (by rw [hinit]; (refine fgtX ?_; try exact True.intro)) ?_
    rintro ⟨k, now⟩ ⟨k1, k2⟩
    simp only at k1 k2 ⊢
    have hw : IntKind.i64.wrap ((k : Int) + 1) = ((k + 1 : Nat) : Int) := by rw [wrap_of (by omega) (by omega)]; omega
    have hWn := hW.to now
    cases hd : l.drop k with
    | nil =>
      have hk : l.length ≤ k := List.drop_eq_nil_iff.1 hd
      have hlt := drop_nil hd
      rw [hd] at k2
      simp only [codeSs, List.append_nil] at k2
      rw [← k2]
      (refine wkO ?_; (repeat' first | exact True.intro | refine Lf.mk ?_ ?_); all_goals intro hP)
      (unfold mW; ((try simp only [go_sem, Nat.reduceAdd, Nat.reduceSub, Nat.reduceMul, Nat.reduceLeDiff, Nat.reduceLT, Nat.reduceEqDiff, Int.reduceToNat, Int.reduceAdd, Int.reduceMul, Int.reduceSub, Int.reduceLT, Int.reduceLE, Int.reduceEq, Int.reduceNeg, Int.reduceBEq, Int.reduceBNe, ↓reduceIte, reduceCtorEq]); (first | refine ⟨_, rfl, _, rfl, Fin.set20 1 ?_ ?_ ?_⟩ | refine ⟨_, rfl, _, rfl, Fin.set2 1 ?_ ?_ ?_⟩)))
      · exact under_pvRows _
      · have := (List.getElem?_eq_some_iff.1 hW.r).1; simp [AObj.under, AV.under, this]
      · simp [AV.low]
    | cons s ss =>
      obtain ⟨hvk, hlt, hr, hm⟩ := drop_cons hd
      have hs := stSL_mem hv s hm
      rw [hd, codeSs] at k2
      have hl' : (l.map encS)[k]? = some (cS s) := by rw [List.getElem?_map, hvk]; exact congrArg some (encS_eq s)
      have hln := congrArg List.length k2
      simp only [List.length_append] at hln
      have hrid := (List.getElem?_eq_some_iff.1 hW.r).1
      have hwl := (List.getElem?_eq_some_iff.1 hW.w).1
      rcases stS_ok hs with ⟨hk1, hv0, hv1, u, hu⟩ | ⟨hk2, hr1, hr2, ⟨u, hu⟩, ⟨u', hu'⟩, ht, he⟩
      · have hc : codeS s now.length = codeE s.a ++ [⟨11, s.var, 0⟩] := by
          obtain ⟨kind, var, rel, a, b, th, el⟩ := s
          simp only [St.kind, St.var, St.a] at *
          subst hk1
          simp [codeS]
        rw [hc] at k2 hln
        simp only [List.length_append, List.length_cons, List.length_nil] at hln
        have cA := hW.lift (fun H hH => wexpr_run wid rid s.a u hu now H (by omega) hH)
        have cB := hW.lift (fun H hH => wadd wid rid (now ++ codeE s.a) 11 s.var 0 (by simp only [List.length_append]; omega) H hH)
        generalize hX1 : now ++ codeE s.a = X1 at cA cB
        generalize hX2 : X1 ++ [(⟨11, s.var, 0⟩ : Ins)] = X2 at cB
        (have ww1 := hl'; have ww2 := hlt; have ww3 := hw; have ww4 := hk1; have ww5 := m0; have ww6 := mk; have ww7 := n0; have ww8 := nk; have ww9 := ml; have cc1 := fun z1 => cA z1; have cc2 := fun z1 => cB z1; refine wkS ?_; clear ww1 ww2 ww3 ww4 ww5 ww6 ww7 ww8 ww9 cc1 cc2; (repeat' first | exact True.intro | refine Lf.mk ?_ ?_); all_goals intro hP)
        refine ⟨(k + 1, X2), by simp only; omega, ⟨by simp only; omega, ?_⟩, ?_⟩
        · simp only
          rw [hr, ← k2, ← hX2, ← hX1]
          simp [Nat.add_assoc]
        · refine Wr.fall hrid 1 ?_
          simp only [List.map_cons, List.map_nil, AV.low, hwl, if_true, Fgt, true_or, or_true, and_true, true_and]
      · have hmm := manyL_mem hm
        have hmi := many_inner s
        rw [many_eq, if_pos hk2] at hmi
        have hmt : manyL s.thn ≤ N ∧ manyL s.els ≤ N := by omega
        have hns : s.kind ≠ 1 := by omega
        cases hel : s.els with
        | nil =>
          have hc : codeS s now.length = codeE s.a ++ codeE s.b ++ [⟨12, ((now.length + (codeE s.a).length + (codeE s.b).length + 1 + (codeSs s.thn (now.length + (codeE s.a).length + (codeE s.b).length + 1)).length : Nat) : Int), s.rel⟩] ++ codeSs s.thn (now.length + (codeE s.a).length + (codeE s.b).length + 1) := by
            obtain ⟨kind, var, rel, a, b, th, el⟩ := s
            simp only [St.kind, St.var, St.a, St.b, St.rel, St.thn, St.els] at *
            subst hel
            rw [codeS, if_neg hns]
          rw [hc] at k2 hln
          simp only [List.length_append, List.length_cons, List.length_nil] at hln
          have cA := hW.lift (fun H hH => wexpr_run wid rid s.a u hu now H (by omega) hH)
          have cB := hW.lift (fun H hH => wexpr_run wid rid s.b u' hu' (now ++ codeE s.a) H (by simp only [List.length_append]; omega) hH)
          have cJ := hW.lift (fun H hH => wadd wid rid (now ++ codeE s.a ++ codeE s.b) 12 0 s.rel (by simp only [List.length_append]; omega) H hH)
          generalize hX1 : now ++ codeE s.a = X1 at cA cB cJ
          generalize hX2 : X1 ++ codeE s.b = X2 at cB cJ
          generalize hX3 : X2 ++ [(⟨12, 0, s.rel⟩ : Ins)] = X3 at cJ
          have e2 : X2.length = now.length + (codeE s.a).length + (codeE s.b).length := by rw [← hX2, ← hX1]; simp only [List.length_append]
          have e3 : X3.length = now.length + (codeE s.a).length + (codeE s.b).length + 1 := by rw [← hX3, List.length_append, e2]; rfl
          rw [← e3] at k2 hln
          have cT := hW.lift (fun H hH => ih s.thn hmt.1 ht X3 H (by omega) (by omega) hH)
          generalize hT : codeSs s.thn X3.length = T at cT k2 hln
          generalize hX4 : X3 ++ T = X4 at cT
          have e4 : X4.length = X3.length + T.length := by rw [← hX4, List.length_append]
          have hx4 : X4[X2.length]? = some ⟨12, 0, s.rel⟩ := by rw [← hX4, ← hX3]; simp
          have cH := hW.lift (fun H hH => whr_run wid rid X4 X2.length _ hx4 (by omega) H hH)
          generalize hX5 : X4.set X2.length ⟨12, X4.length, s.rel⟩ = X5 at cH
          have hel' : ((s.els.map encS).length : Int) = 0 := by rw [hel]; rfl
          have hk1' : (s.kind == 1) = false := by rw [hk2]; rfl
          (have ww1 := hl'; have ww2 := hlt; have ww3 := hw; have ww4 := hk2; have ww5 := hel; have ww6 := m0; have ww7 := mk; have ww8 := n0; have ww9 := nk; have ww10 := ml; have cc1 := fun z1 => cA z1; have cc2 := fun z1 => cB z1; have cc3 := fun z1 => cJ z1; have cc4 := fun z1 => cT z1; have cc5 := fun z1 => cH z1; refine wkS ?_; clear ww1 ww2 ww3 ww4 ww5 ww6 ww7 ww8 ww9 ww10 cc1 cc2 cc3 cc4 cc5; (repeat' first | exact True.intro | refine Lf.mk ?_ ?_); all_goals intro hP)
          refine ⟨(k + 1, X5), by simp only; omega, ⟨by simp only; omega, ?_⟩, ?_⟩
          · simp only
            have e5 : X5 = now ++ (codeE s.a ++ codeE s.b ++ [⟨12, ((X3.length + T.length : Nat) : Int), s.rel⟩] ++ T) := by
              rw [← hX5, e4, ← hX4, ← hX3, ← hX2, ← hX1]; simp
            rw [hr, ← k2, e5]
            simp [Nat.add_assoc]
          · refine Wr.fall hrid 1 ?_
            simp only [List.map_cons, List.map_nil, AV.low, hwl, if_true, Fgt, true_or, or_true, and_true, true_and]
        | cons x xs =>
          have hc : codeS s now.length = codeE s.a ++ codeE s.b ++ [⟨12, ((now.length + (codeE s.a).length + (codeE s.b).length + 1 + (codeSs s.thn (now.length + (codeE s.a).length + (codeE s.b).length + 1)).length + 1 : Nat) : Int), s.rel⟩] ++ codeSs s.thn (now.length + (codeE s.a).length + (codeE s.b).length + 1) ++
              [⟨13, ((now.length + (codeE s.a).length + (codeE s.b).length + 1 + (codeSs s.thn (now.length + (codeE s.a).length + (codeE s.b).length + 1)).length + 1 + (codeSs s.els (now.length + (codeE s.a).length + (codeE s.b).length + 1 + (codeSs s.thn (now.length + (codeE s.a).length + (codeE s.b).length + 1)).length + 1)).length : Nat) : Int), 0⟩] ++
              codeSs s.els (now.length + (codeE s.a).length + (codeE s.b).length + 1 + (codeSs s.thn (now.length + (codeE s.a).length + (codeE s.b).length + 1)).length + 1) := by
            obtain ⟨kind, var, rel, a, b, th, el⟩ := s
            simp only [St.kind, St.var, St.a, St.b, St.rel, St.thn, St.els] at *
            subst hel
            rw [codeS, if_neg hns]
          rw [hc] at k2 hln
          simp only [List.length_append, List.length_cons, List.length_nil] at hln
          have cA := hW.lift (fun H hH => wexpr_run wid rid s.a u hu now H (by omega) hH)
          have cB := hW.lift (fun H hH => wexpr_run wid rid s.b u' hu' (now ++ codeE s.a) H (by simp only [List.length_append]; omega) hH)
          have cJ := hW.lift (fun H hH => wadd wid rid (now ++ codeE s.a ++ codeE s.b) 12 0 s.rel (by simp only [List.length_append]; omega) H hH)
          generalize hX1 : now ++ codeE s.a = X1 at cA cB cJ
          generalize hX2 : X1 ++ codeE s.b = X2 at cB cJ
          generalize hX3 : X2 ++ [(⟨12, 0, s.rel⟩ : Ins)] = X3 at cJ
          have e2 : X2.length = now.length + (codeE s.a).length + (codeE s.b).length := by rw [← hX2, ← hX1]; simp only [List.length_append]
          have e3 : X3.length = now.length + (codeE s.a).length + (codeE s.b).length + 1 := by rw [← hX3, List.length_append, e2]; rfl
          rw [← e3] at k2 hln
          have cT := hW.lift (fun H hH => ih s.thn hmt.1 ht X3 H (by omega) (by omega) hH)
          generalize hT : codeSs s.thn X3.length = T at cT k2 hln
          generalize hX4 : X3 ++ T = X4 at cT
          have e4 : X4.length = X3.length + T.length := by rw [← hX4, List.length_append]
          have cK := hW.lift (fun H hH => wadd wid rid X4 13 0 0 (by omega) H hH)
          generalize hX5 : X4 ++ [(⟨13, 0, 0⟩ : Ins)] = X5 at cK
          have e5 : X5.length = X3.length + T.length + 1 := by rw [← hX5, List.length_append, e4]; rfl
          have hx5 : X5[X2.length]? = some ⟨12, 0, s.rel⟩ := by rw [← hX5, ← hX4, ← hX3]; simp
          have cH := hW.lift (fun H hH => whr_run wid rid X5 X2.length _ hx5 (by omega) H hH)
          generalize hX6 : X5.set X2.length ⟨12, X5.length, s.rel⟩ = X6 at cH
          have e6 : X6.length = X3.length + T.length + 1 := by rw [← hX6, List.length_set, e5]
          rw [← e6] at k2 hln
          have cU := hW.lift (fun H hH => ih s.els hmt.2 he X6 H (by omega) (by omega) hH)
          generalize hU : codeSs s.els X6.length = U at cU k2 hln
          generalize hX7 : X6 ++ U = X7 at cU
          have e7 : X7.length = X6.length + U.length := by rw [← hX7, List.length_append]
          have v6 : X6 = X3.take X2.length ++ ([⟨12, ((X6.length : Nat) : Int), s.rel⟩] ++ T ++ [⟨13, 0, 0⟩]) := by
            rw [e6, ← e5, ← hX6, ← hX5, ← hX4, ← hX3]; simp
          have hx7 : X7[X4.length]? = some ⟨13, 0, 0⟩ := by
            rw [← hX7, ← hX6, ← hX5, List.getElem?_append_left (by simp), List.getElem?_set_ne (by rw [e4, e2, e3]; omega)]; simp
          have cI := hW.lift (fun H hH => whr_run wid rid X7 X4.length _ hx7 (by omega) H hH)
          generalize hX8 : X7.set X4.length ⟨13, X7.length, 0⟩ = X8 at cI
          have hne0 : s.els ≠ [] := by rw [hel]; simp
          have hel1 : ¬ ((s.els.length : Int) = 0) := by rw [hel]; simp; omega
          have hel2 : (((s.els.length : Int)) == 0) = false := by simp [hne0]
          (have ww1 := hl'; have ww2 := hlt; have ww3 := hw; have ww4 := hk2; have ww5 := hel2; have ww6 := hel1; have ww7 := m0; have ww8 := mk; have ww9 := n0; have ww10 := nk; have ww11 := ml; have cc1 := fun z1 => cA z1; have cc2 := fun z1 => cB z1; have cc3 := fun z1 => cJ z1; have cc4 := fun z1 => cT z1; have cc5 := fun z1 => cK z1; have cc6 := fun z1 => cH z1; have cc7 := fun z1 => cU z1; have cc8 := fun z1 => cI z1; refine wkS ?_; clear ww1 ww2 ww3 ww4 ww5 ww6 ww7 ww8 ww9 ww10 ww11 cc1 cc2 cc3 cc4 cc5 cc6 cc7 cc8; (repeat' first | exact True.intro | refine Lf.mk ?_ ?_); all_goals intro hP)
          refine ⟨(k + 1, X8), by simp only; omega, ⟨by simp only; omega, ?_⟩, ?_⟩
          · simp only
            have w6 : X6 = X2 ++ [(⟨12, ((X6.length : Nat) : Int), s.rel⟩ : Ins)] ++ T ++ [⟨13, 0, 0⟩] := by
              rw [e6, ← e5, ← hX6, ← hX5, ← hX4, ← hX3]; simp
            have hP : X4.length = (X2 ++ [(⟨12, ((X6.length : Nat) : Int), s.rel⟩ : Ins)] ++ T).length := by
              rw [e4, e3]; simp only [List.length_append, List.length_cons, List.length_nil]; omega
            have e8 : X8 = now ++ (codeE s.a ++ codeE s.b ++ [⟨12, ((X6.length : Nat) : Int), s.rel⟩] ++ T ++ [⟨13, ((X6.length + U.length : Nat) : Int), 0⟩] ++ U) := by
              rw [← hX8, e7, ← hX7]
              generalize hn6 : X6.length = n6 at *
              rw [w6, hP, ← hX2, ← hX1]
              simp
            rw [hr, ← k2, e8]
            simp [Nat.add_assoc]
          · refine Wr.fall hrid 1 ?_
            simp only [List.map_cons, List.map_nil, AV.low, hwl, if_true, Fgt, true_or, or_true, and_true, true_and]
end Go.Proofs.Ytiifbdkedainnaa.Y

set_option maxHeartbeats 8000000
set_option maxRecDepth 100000
set_option linter.unusedVariables false
set_option linter.unusedSimpArgs false
set_option linter.unusedSectionVars false
namespace Go.Proofs.Ytiifbdkedainnaa.Y
open Go.Proofs.Ytiifbdkedainnaa.AL Go.Proofs Go
attribute [local irreducible] AWP AWL AWG AWR AWE AWX AWO AWSeq AWSG AWSR AWSO AWSE AWSF GoodP OGW OGR OGE OGX PGW PGR PGE Wk AWLoop AWPD AWLD

/-- A writer without a row yet. -/
theorem wstmts0_run {vs : List Un} (wid : Nat) (l : List St) (hv : stSL vs l = 0) (hlen : (codeSs l 0).length ≤ 1000000000) (hm : manyL l ≤ 1000000000) (H0 : List AObj)
    (hw : H0[wid]? = some (.cells 58 [.pv (.sc (.slice none 0 0))])) :
    ARun Try.prog 26 [.p wid 0, .rs 13 (l.map encS)] H0 (.ret (.tup []) (H0.set wid (wC H0.length (codeSs l 0).length) ++ [iR (codeSs l 0)])) := by
  have hwl := (List.getElem?_eq_some_iff.1 hw).1
  refine ARun.ghostO wid 0 41 (sz := 3) (by decide) hw rfl ?_
  have hW : Wr wid H0.length (H0.set wid (.cells 58 [.os H0.length 0 0 0]) ++ [.arr 41 3 []]) [] := by
    refine ⟨by omega, ?_, ?_⟩
    · rw [List.getElem?_append_left (by simpa using hwl)]; exact getSet hw _
    · rw [List.getElem?_append_right (by simp)]; simp [pvRows]
  have := wstmts_run (vs := vs) wid H0.length (manyL l) l (Nat.le_refl _) hv [] _ (by simpa using hlen) hm hW
  have e : mW wid H0.length (H0.set wid (.cells 58 [.os H0.length 0 0 0]) ++ [.arr 41 3 []]) ([] ++ codeSs l ([] : List Ins).length) = H0.set wid (wC H0.length (codeSs l 0).length) ++ [iR (codeSs l 0)] := by
    unfold mW
    rw [List.set_append_right (h := by simp), List.set_append_left (h := by simpa using hwl), List.set_set]
    simp
  rw [e] at this
  exact this
end Go.Proofs.Ytiifbdkedainnaa.Y

set_option maxHeartbeats 8000000
set_option maxRecDepth 100000
set_option linter.unusedVariables false
set_option linter.unusedSimpArgs false
set_option linter.unusedSectionVars false
namespace Go.Proofs.Ytiifbdkedainnaa.Y
open Go.Proofs.Ytiifbdkedainnaa.AL Go.Proofs Go
attribute [local irreducible] AWP AWL AWG AWR AWE AWX AWO AWSeq AWSG AWSR AWSO AWSE AWSF GoodP OGW OGR OGE OGX PGW PGR PGE Wk AWLoop AWPD AWLD

theorem CValid_run (p : Prg) (hl : p.vars.length ≤ 1000000) (hok : okP p) (hz : p.name.size ≤ 2000000) (hzv : ∀ v ∈ p.vars, v.name.size ≤ 2000000) (H0 : List AObj) :
    ARun Try.prog 25 [.ag (cP p)] H0 (.ret (.b (validB p)) H0) := by
  rw [← ctlB_eq]
  have n1 := fun H0 => nameC_run p.name hz H0
  by_cases hlen : 1 ≤ p.vars.length ∧ p.vars.length ≤ 12
  · obtain ⟨len1, len2⟩ := hlen
    cases hnm : nameB p.name with
    | false =>
      rw [hnm] at n1
      have hr : ctlB p = false := by unfold ctlB; rw [hnm]; simp
      rw [hr]
      clear hr
      (refine ARun.intro Try.func25 rfl Try.call25 Try.ntmps25 Try.results25 ?_; simp only [List.length_cons, List.length_nil, List.length_map, Nat.reduceAdd, Nat.reduceSub, List.replicate_succ, List.replicate_zero, List.cons_append, List.nil_append])
      (have cc1 := fun z1 => n1 z1; refine wkO ?_; clear cc1; (repeat' first | exact True.intro | refine Lf.mk ?_ ?_); all_goals intro hP)
      (refine resX ?_; try exact True.intro)
    | true =>
      rw [hnm] at n1
      have hr : ctlB p = (onceC p.vars [] && (decide ((checkS p).1 < 0) && (decide ((checkS p).2 = 0) && (usesB p.vars p.window 1 && (decide (p.pace = -1) || usesB p.vars p.pace 4))))) := by
        unfold ctlB; rw [hnm, decide_eq_true len1, decide_eq_true len2]; simp
      rw [hr]
      clear hr
      have c1 := fun H0 => Check_run p hl hok H0
      have c2 := fun H0 => hasUnit_run p.vars p.window 1 (by omega) H0
      have c3 := fun H0 => hasUnit_run p.vars p.pace 4 (by omega) H0
      have zb := zeroBool
      (refine ARun.intro Try.func25 rfl Try.call25 Try.ntmps25 Try.results25 ?_; simp only [List.length_cons, List.length_nil, List.length_map, Nat.reduceAdd, Nat.reduceSub, List.replicate_succ, List.replicate_zero, List.cons_append, List.nil_append])
      (have cc1 := fun z1 => n1 z1; refine wkO ?_; clear cc1; (repeat' first | exact True.intro | refine Lf.mk ?_ ?_); all_goals intro hP)
      refine awp_loop_ind (σ := Nat) (fun k => p.vars.length - k) (fun k => k ≤ p.vars.length ∧ onceC p.vars [] = onceC (p.vars.drop k) ((p.vars.take k).map (·.name)))
        (fun k => (.any :: .p H0.length 0 :: .any :: .mp (H0.length + 1) :: .any :: .any :: .any :: .any :: .any :: .any :: .any :: .any :: .any :: .any :: .any :: .any :: .any :: .any :: .any :: .any :: .any :: .any :: .any :: .any :: .any :: .any :: .rs 5 (p.vars.map encV) :: .i p.vars.length :: .i k :: .any :: .any :: .any :: .any :: .any :: .any :: .any :: .any :: .any :: .any :: .any :: .any :: .any :: .any :: .any :: .any :: .any :: .any :: .any :: .any :: .any :: .any :: .any :: .any :: .any :: .any :: .any :: .any :: .any :: .any :: .any :: .any :: .any :: .any :: .any :: .any :: .any :: .any :: .any :: .any :: .any :: .any :: .any :: .any :: .any :: .any :: .any :: .any :: .any :: .any :: .any :: .any :: .any :: .any :: .any :: .any :: .any :: .any :: .any :: .any :: .any :: .any :: .any :: .any :: .any :: .any :: .any :: .any :: .any :: .any :: .any :: []))
        (fun k => H0 ++ [.cells 26 ((cP p).map AV.pv), .smap (seenM ((p.vars.take k).map (·.name)))]) 0 ⟨Nat.zero_le _, by simp⟩ (by (refine fgtX ?_; try exact True.intro)) ?_
      rintro k ⟨k1, k2⟩
      have hw : IntKind.i64.wrap ((k : Int) + 1) = ((k + 1 : Nat) : Int) := by rw [wrap_of (by omega) (by omega)]; omega
      cases hd : p.vars.drop k with
      | nil =>
        have hk : p.vars.length ≤ k := List.drop_eq_nil_iff.1 hd
        rw [hd] at k2
        rw [k2, show onceC [] ((p.vars.take k).map (·.name)) = true from rfl, Bool.true_and]
        clear k2 zb
        have hans : ∀ x, ansC x = .tup [.i x.1, .i x.2] := fun x => rfl
        generalize hS : seenM ((p.vars.take k).map (·.name)) = S
        generalize checkS p = c at c1 ⊢
        cases hu1 : usesB p.vars p.window 1 <;> cases hu2 : usesB p.vars p.pace 4
        all_goals
          rw [hu1] at c2
          rw [hu2] at c3
          (have ww1 := hans; have cc1 := fun z1 => c1 z1; have cc2 := fun z1 => c2 z1; have cc3 := fun z1 => c3 z1; refine wkO ?_; clear ww1 cc1 cc2 cc3; (repeat' first | exact True.intro | refine Lf.mk ?_ ?_); all_goals intro hP)
          all_goals clear c1 c2 c3 n1
          all_goals ((refine resX ?_; try exact True.intro))
          all_goals (refine congrArg (fun b => AV.pv (PV.sc (Value.bool b))) ?_; rw [Bool.eq_iff_iff]; simp <;> omega)
      | cons v r =>
        have hk : k < p.vars.length := by have := congrArg List.length hd; simp at this; omega
        rw [hd] at k2
        obtain ⟨hvk, _, hr, hm⟩ := drop_cons hd
        have hl' : (p.vars.map encV)[k]? = some (cV v) := by rw [List.getElem?_map, hvk]; rfl
        have n2 := fun H0 => nameC_run v.name (hzv v hm) H0
        have hsn : (p.vars.take (k + 1)).map (·.name) = (p.vars.take k).map (·.name) ++ [v.name] := by
          rw [List.take_add_one, hvk]; simp
        have hlk := lookS_seen ((p.vars.take k).map (·.name)) v.name (.bool false)
        cases hin : inB ((p.vars.take k).map (·.name)) v.name with
        | true =>
          rw [hin, if_pos rfl] at hlk
          have hf : onceC p.vars [] = false := by rw [k2, onceC, hin]; rfl
          rw [hf, Bool.false_and]
          (have ww1 := hl'; have ww2 := hlk; have ww3 := zb; have cc1 := fun z1 => n2 z1; refine wkO ?_; clear ww1 ww2 ww3 cc1; (repeat' first | exact True.intro | refine Lf.mk ?_ ?_); all_goals intro hP)
          (refine resX ?_; try exact True.intro)
        | false =>
          rw [hin, if_neg Bool.false_ne_true] at hlk
          have hput := putS_seen ((p.vars.take k).map (·.name)) v.name hin
          rw [← hsn] at hput
          rw [onceC, hin, ← hsn] at k2
          cases hn2 : nameB v.name with
          | false =>
            rw [hn2] at n2
            have hf : onceC p.vars [] = false := by rw [k2, varC, hn2]; simp
            rw [hf, Bool.false_and]
            (have ww1 := hl'; have ww2 := hlk; have ww3 := zb; have cc1 := fun z1 => n2 z1; refine wkO ?_; clear ww1 ww2 ww3 cc1; (repeat' first | exact True.intro | refine Lf.mk ?_ ?_); all_goals intro hP)
            (refine resX ?_; try exact True.intro)
          | true =>
            rw [hn2] at n2
            have hvc : varC v = decide (0 ≤ v.low ∧ v.low ≤ v.init ∧ v.init ≤ v.high ∧ v.high ≤ 1000000000) := by unfold varC; rw [hn2, Bool.true_and]
            (have ww1 := hl'; have ww2 := hlk; have ww3 := zb; have ww4 := hput; have ww5 := hw; have cc1 := fun z1 => n2 z1; refine wkO ?_; clear ww1 ww2 ww3 ww4 ww5 cc1; (repeat' first | exact True.intro | refine Lf.mk ?_ ?_); all_goals intro hP)
            all_goals first
              | (refine ⟨k + 1, by omega, ⟨by omega, k2.trans (by rw [hvc, decide_eq_true (by omega), hr, Bool.not_false, Bool.true_and, Bool.true_and])⟩, ?_⟩; refine Wk.keepE 2 1 rfl (by simp) ?_ ?_; (intro o ho; simp only [List.mem_cons, List.not_mem_nil, or_false] at ho; rcases ho with rfl | rfl; (simp [AObj.under, AV.under]); (trivial)); (simp only [List.map_cons, List.map_nil, AV.low, List.length_append, List.length_cons, List.length_nil, Nat.lt_irrefl, if_false, Fgt, Int.natCast_zero, Int.cast_ofNat_Int, Int.ofNat_eq_natCast, true_or, or_true, true_and, and_true, and_self, eq_self]; simp); done)
              | ((refine resX ?_; try exact True.intro); rw [k2, hvc, decide_eq_false (by omega)]; simp; done)
  · have hr : ctlB p = false := by
      unfold ctlB
      by_cases h : 1 ≤ p.vars.length
      · rw [decide_eq_false (show ¬ p.vars.length ≤ 12 by omega)]; simp
      · rw [decide_eq_false h]; simp
    rw [hr]
    clear hr
    cases hnm : nameB p.name
    all_goals
      rw [hnm] at n1
      (refine ARun.intro Try.func25 rfl Try.call25 Try.ntmps25 Try.results25 ?_; simp only [List.length_cons, List.length_nil, List.length_map, Nat.reduceAdd, Nat.reduceSub, List.replicate_succ, List.replicate_zero, List.cons_append, List.nil_append])
      (have cc1 := fun z1 => n1 z1; refine wkO ?_; clear cc1; (repeat' first | exact True.intro | refine Lf.mk ?_ ?_); all_goals intro hP)
      all_goals ((refine resX ?_; try exact True.intro))
end Go.Proofs.Ytiifbdkedainnaa.Y

set_option maxHeartbeats 8000000
set_option maxRecDepth 100000
set_option linter.unusedVariables false
set_option linter.unusedSimpArgs false
set_option linter.unusedSectionVars false
namespace Go.Proofs.Ytiifbdkedainnaa.Y
open Go.Proofs.Ytiifbdkedainnaa.AL Go.Proofs Go
attribute [local irreducible] AWP AWL AWG AWR AWE AWX AWO AWSeq AWSG AWSR AWSO AWSE AWSF GoodP OGW OGR OGE OGX PGW PGR PGE Wk AWLoop AWPD AWLD

def cod0 : Cod := ⟨[], [], [], [], []⟩
/-- The compiler. -/
def compS (p : Prg) : Cod × Int :=
  if validB p = true then
    (if (codeSs p.on0 0).length ≤ 4000 ∧ (codeSs p.on1 0).length ≤ 4000 ∧ (codeSs p.on2 0).length ≤ 4000 ∧ (codeSs p.on3 0).length ≤ 4000 ∧ (codeSs p.on4 0).length ≤ 4000
      then (⟨codeSs p.on0 0, codeSs p.on1 0, codeSs p.on2 0, codeSs p.on3 0, codeSs p.on4 0⟩, 0) else (cod0, 2))
  else (cod0, 1)
theorem CCompile_bad (p : Prg) (hl : p.vars.length ≤ 1000000) (hok : okP p) (hz : p.name.size ≤ 2000000) (hzv : ∀ v ∈ p.vars, v.name.size ≤ 2000000) (hv : validB p = false) (H0 : List AObj) :
    ARun Try.prog 13 [.ag (cP p)] H0 (.ret (.tup [.ag (cC (compS p).1), .i (compS p).2]) H0) := by
  have c1 := fun H0 => CValid_run p hl hok hz hzv H0
  rw [hv] at c1
  have e : compS p = (cod0, 1) := by unfold compS; rw [hv]; rfl
  rw [e]
  (refine ARun.intro Try.func13 rfl Try.call13 Try.ntmps13 Try.results13 ?_; simp only [List.length_cons, List.length_nil, List.length_map, Nat.reduceAdd, Nat.reduceSub, List.replicate_succ, List.replicate_zero, List.cons_append, List.nil_append])
  (have cc1 := fun z1 => c1 z1; refine wkS ?_; clear cc1; (repeat' first | exact True.intro | refine Lf.mk ?_ ?_); all_goals intro hP)
  refine ⟨_, rfl, _, rfl, Fin.pureC 2 ?_⟩
  simp only [AV.low, List.map_cons, List.map_nil, cod0]
  exact Cv.tup ⟨Cv.agg ⟨Cv.nil (by decide), Cv.nil (by decide), Cv.nil (by decide), Cv.nil (by decide), Cv.nil (by decide), trivial⟩, Cv.refl _, trivial⟩
end Go.Proofs.Ytiifbdkedainnaa.Y

/- Plain laws: which programs are small (the other count), how long their code is, what a valid program has. -/
set_option linter.unusedVariables false
namespace Go.Proofs.Ytiifbdkedainnaa.AL
mutual
def flatE : Ex → Int → Bool
  | .mk _ _ _ kids, d => decide (d ≠ 0) && flatEL kids (d - 1)
def flatEL : List Ex → Int → Bool
  | [], _ => true
  | e :: es, d => flatE e d && flatEL es d
end
theorem flatE_eq (e : Ex) (d : Int) : flatE e d = (decide (d ≠ 0) && flatEL e.kids (d - 1)) := by cases e; rw [flatE]; rfl
mutual
/-- The count of statements and expressions, as far as it is not over a number, nor deeper than another one; n was counted before. -/
def szS : St → Int → Int → Int → Int
  | .mk _ _ _ a b t e, most, deep, n =>
    (n + 1 + size a most + size b most + szL t (most - (n + 1 + size a most + size b most)) (deep - 1) 0) +
      szL e (most - (n + 1 + size a most + size b most + szL t (most - (n + 1 + size a most + size b most)) (deep - 1) 0)) (deep - 1) 0
def szL : List St → Int → Int → Int → Int
  | [], _, _, n => n
  | s :: ss, most, deep, n => if n ≤ most then (if deep = 0 ∨ flatE s.a 200 = false ∨ flatE s.b 200 = false then most + 1 else szL ss most deep (szS s most deep n)) else n
end
theorem szS_eq (s : St) (most deep n : Int) : szS s most deep n =
    (n + 1 + size s.a most + size s.b most + szL s.thn (most - (n + 1 + size s.a most + size s.b most)) (deep - 1) 0) +
      szL s.els (most - (n + 1 + size s.a most + size s.b most + szL s.thn (most - (n + 1 + size s.a most + size s.b most)) (deep - 1) 0)) (deep - 1) 0 := by
  cases s; rw [szS]; rfl
theorem szL_over (l : List St) (most deep n : Int) (h : most < n) : szL l most deep n = n := by
  cases l with
  | nil => rfl
  | cons s ss => rw [szL, if_neg (by omega)]
theorem size_cap (e : Ex) (b : Int) (hb : 0 ≤ b) : (size e b ≤ b → size e b = nodes e) ∧ size e b ≤ nodes e + 0 ∧ 1 ≤ size e b ∧ size e b ≤ b + 1 := by
  have h1 := size_bd e b
  have h2 := size_nodes e b
  have h3 : 1 ≤ nodes e := by cases e; simp [nodes]
  have h4 : size e b ≤ nodes e := by
    rcases Nat.lt_or_ge b.toNat (nodes e) with hlt | hge
    · omega
    · rw [h2.1 (by omega)]; omega
  omega
theorem sz_key (s : St) : ∀ most deep n : Int, 0 ≤ n → n ≤ most → n < szS s most deep n ∧ (szS s most deep n ≤ most → szS s most deep n = n + wS s) ∧ szS s most deep n ≤ 3 * most + 3 := by
  have hl : ∀ l : List St, (∀ k ∈ l, ∀ most deep n : Int, 0 ≤ n → n ≤ most → n < szS k most deep n ∧ (szS k most deep n ≤ most → szS k most deep n = n + wS k) ∧ szS k most deep n ≤ 3 * most + 3) →
      ∀ most deep n : Int, 0 ≤ n → n ≤ szL l most deep n ∧ (szL l most deep n ≤ most → szL l most deep n = n + wSL l) ∧ (szL l most deep n ≤ n ∨ szL l most deep n ≤ 3 * most + 3) := by
    intro l
    induction l with
    | nil => intro _ most deep n hn; simp only [szL, wSL]; omega
    | cons x xs ih =>
      intro h most deep n hn
      simp only [szL, wSL]
      split
      · rename_i hnm
        split
        · omega
        · have h1 := h x (by simp) most deep n hn hnm
          have h2 := ih (fun k hk => h k (by simp [hk])) most deep (szS x most deep n) (by omega)
          omega
      · omega
  induction s using St.ind with
  | h s ih1 ih2 =>
    intro most deep n hn hnm
    rw [szS_eq, wS_eq]
    have ha := size_cap s.a most (by omega)
    have hb := size_cap s.b most (by omega)
    generalize size s.a most = ka at *
    generalize size s.b most = kb at *
    have h1 := hl s.thn ih1 (most - (n + 1 + ka + kb)) (deep - 1) 0 (by omega)
    generalize szL s.thn (most - (n + 1 + ka + kb)) (deep - 1) 0 = r1 at *
    have h2 := hl s.els ih2 (most - (n + 1 + ka + kb + r1)) (deep - 1) 0 (by omega)
    generalize szL s.els (most - (n + 1 + ka + kb + r1)) (deep - 1) 0 = r2 at *
    omega
theorem szL_key (l : List St) : ∀ most deep n : Int, 0 ≤ n → n ≤ szL l most deep n ∧ (szL l most deep n ≤ most → szL l most deep n = n + wSL l) ∧ (szL l most deep n ≤ n ∨ szL l most deep n ≤ 3 * most + 3) := by
  induction l with
  | nil => intro most deep n hn; simp only [szL, wSL]; omega
  | cons x xs ih =>
    intro most deep n hn
    simp only [szL, wSL]
    split
    · rename_i hnm
      split
      · omega
      · have h1 := sz_key x most deep n hn hnm
        have h2 := ih most deep (szS x most deep n) (by omega)
        omega
    · omega
/-- Programs that are small enough to be examined. -/
def fewB5 (p : Prg) : Bool :=
  p.vars.all (fun v => decide (v.name.size ≤ 40)) && (decide (p.vars.length ≤ 20) && (decide (p.name.size ≤ 40) && decide (szL p.on0 3000 200 0 + szL p.on1 3000 200 0 + szL p.on2 3000 200 0 + szL p.on3 3000 200 0 + szL p.on4 3000 200 0 ≤ 3000)))
theorem few5_all {p : Prg} (h : fewB5 p = true) : (∀ v ∈ p.vars, v.name.size ≤ 40) ∧ p.vars.length ≤ 20 ∧ p.name.size ≤ 40 ∧ wSL p.on0 + wSL p.on1 + wSL p.on2 + wSL p.on3 + wSL p.on4 ≤ 3000 := by
  simp only [fewB5, Bool.and_eq_true, decide_eq_true_eq, List.all_eq_true] at h
  obtain ⟨h1, h2, h3, h4⟩ := h
  have k0 := szL_key p.on0 3000 200 0 (by omega)
  have k1 := szL_key p.on1 3000 200 0 (by omega)
  have k2 := szL_key p.on2 3000 200 0 (by omega)
  have k3 := szL_key p.on3 3000 200 0 (by omega)
  have k4 := szL_key p.on4 3000 200 0 (by omega)
  exact ⟨h1, h2, h3, by omega⟩
theorem wS_fine (s : St) : wS s ≤ 900000 → fine s := by
  have hl : ∀ l : List St, (∀ k ∈ l, wS k ≤ 900000 → fine k) → wSL l ≤ 900000 → fineL l := by
    intro l
    induction l with
    | nil => intro _ _; trivial
    | cons x xs ih =>
      intro h h2
      simp only [wSL] at h2
      exact ⟨h x (by simp) (by omega), ih (fun k hk => h k (by simp [hk])) (by omega)⟩
  induction s using St.ind with
  | h s h1 h2 =>
    intro h
    rw [wS_eq] at h
    rw [fine_eq]
    exact ⟨by omega, by omega, hl _ h1 (by omega), hl _ h2 (by omega)⟩
theorem wSL_fine : ∀ {l : List St}, wSL l ≤ 900000 → fineL l
  | [], _ => trivial
  | s :: l, h => by simp only [wSL] at h; exact ⟨wS_fine s (by omega), wSL_fine (by omega)⟩
/-- What is small can be counted. -/
theorem okP_of {p : Prg} (h : wSL p.on0 + wSL p.on1 + wSL p.on2 + wSL p.on3 + wSL p.on4 ≤ 900000) : okP p := by
  have := manyL_le p.on0; have := manyL_le p.on1; have := manyL_le p.on2; have := manyL_le p.on3; have := manyL_le p.on4
  exact ⟨⟨by omega, wSL_fine (by omega)⟩, ⟨by omega, wSL_fine (by omega)⟩, ⟨by omega, wSL_fine (by omega)⟩, ⟨by omega, wSL_fine (by omega)⟩, ⟨by omega, wSL_fine (by omega)⟩⟩
mutual
/-- How many instructions statements need. -/
def insS : St → Nat
  | .mk k _ _ a b t e => nodes a + 1 + (if k = 2 then nodes b + insSL t + insSL e + (if e.length = 0 then 0 else 1) else 0)
def insSL : List St → Nat
  | [] => 0
  | s :: ss => insS s + insSL ss
end
theorem insS_eq (s : St) : insS s = nodes s.a + 1 + (if s.kind = 2 then nodes s.b + insSL s.thn + insSL s.els + (if s.els.length = 0 then 0 else 1) else 0) := by cases s; rw [insS]; rfl
theorem ins_le (s : St) : insS s ≤ 2 * wS s := by
  have hl : ∀ l : List St, (∀ k ∈ l, insS k ≤ 2 * wS k) → insSL l ≤ 2 * wSL l := by
    intro l
    induction l with
    | nil => intro _; simp [insSL]
    | cons x xs ih => intro h; simp only [insSL, wSL]; have := h x (by simp); have := ih (fun k hk => h k (by simp [hk])); omega
  induction s using St.ind with
  | h s h1 h2 =>
    rw [insS_eq, wS_eq]
    have := hl _ h1; have := hl _ h2
    have : 1 ≤ nodes s.b := by rw [nodes_eq]; omega
    split <;> (try split) <;> omega
theorem insSL_le : ∀ l : List St, insSL l ≤ 2 * wSL l
  | [] => by simp [insSL]
  | s :: l => by simp only [insSL, wSL]; have := ins_le s; have := insSL_le l; omega
theorem codeS_len {vs : List Un} (s : St) : stS vs s = 0 → ∀ at', (codeS s at').length = insS s := by
  have hl : ∀ l : List St, (∀ k ∈ l, stS vs k = 0 → ∀ at', (codeS k at').length = insS k) → stSL vs l = 0 → ∀ at', (codeSs l at').length = insSL l := by
    intro l
    induction l with
    | nil => intro _ _ at'; simp [codeSs, insSL]
    | cons x xs ih =>
      intro h h2 at'
      simp only [stSL] at h2
      split at h2
      · rename_i hx
        simp only [codeSs, insSL, List.length_append]
        rw [h x (by simp) hx, ih (fun k hk => h k (by simp [hk])) h2]
      · contradiction
  induction s using St.ind with
  | h s h1 h2 =>
    intro h at'
    rw [codeS_eq, insS_eq]
    rcases stS_ok h with ⟨hk1, hv0, hv1, u, hu⟩ | ⟨hk2, hr1, hr2, ⟨u, hu⟩, ⟨u', hu'⟩, ht, he⟩
    · rw [if_pos hk1, if_neg (by omega)]; simp [codeE_len]
    · rw [if_neg (by omega), if_pos hk2]
      have g1 := hl _ h1 ht
      have g2 := hl _ h2 he
      cases hel : s.els with
      | nil => simp only [List.length_append, List.length_cons, List.length_nil, codeE_len, g1, insSL, if_true]; omega
      | cons x xs =>
        rw [hel] at g2
        simp only [List.length_append, List.length_cons, List.length_nil, codeE_len, g1, g2]
        rw [if_neg (by omega)]; omega
theorem codeSs_len {vs : List Un} : ∀ (l : List St), stSL vs l = 0 → ∀ at', (codeSs l at').length = insSL l
  | [], _, at' => by simp [codeSs, insSL]
  | x :: xs, h, at' => by
    simp only [stSL] at h
    split at h
    · rename_i hx
      simp only [codeSs, insSL, List.length_append]
      rw [codeS_len x hx, codeSs_len xs h]
    · contradiction
/-- What a valid program has. -/
structure Val (p : Prg) (vs : List Un) : Prop where
  ks : ksL p.vars = some vs
  len : vs.length = p.vars.length
  lo : 1 ≤ p.vars.length
  hi : p.vars.length ≤ 12
  h0 : stSL vs p.on0 = 0 ∧ smSL p.on0 = true ∧ manyL p.on0 ≤ 100
  h1 : stSL vs p.on1 = 0 ∧ smSL p.on1 = true ∧ manyL p.on1 ≤ 100
  h2 : stSL vs p.on2 = 0 ∧ smSL p.on2 = true ∧ manyL p.on2 ≤ 100
  h3 : stSL vs p.on3 = 0 ∧ smSL p.on3 = true ∧ manyL p.on3 ≤ 100
  h4 : stSL vs p.on4 = 0 ∧ smSL p.on4 = true ∧ manyL p.on4 ≤ 100
theorem handS_0 {vs : List Un} {l : List St} (h : handS vs l = 0) : stSL vs l = 0 ∧ smSL l = true ∧ manyL l ≤ 100 := by
  unfold handS at h
  split at h
  · contradiction
  · split at h
    · exact ⟨h, by assumption, by omega⟩
    · contradiction
theorem checkS_val {p : Prg} (h : checkS p = (-1, 0)) (lo : 1 ≤ p.vars.length) : ∃ vs, Val p vs := by
  unfold checkS at h
  split at h
  · cases h
  · rename_i vs hks
    split at h
    · cases h
    · unfold evS at h
      refine ⟨vs, ?_⟩
      repeat' (split at h; (first | (exfalso; simp only [Prod.mk.injEq] at h; omega) | skip))
      all_goals first
        | (exact ⟨hks, ksL_len hks, lo, by omega, handS_0 (by omega), handS_0 (by omega), handS_0 (by omega), handS_0 (by omega), handS_0 (by omega)⟩)
        | (exfalso; simp at h; done)
theorem validB_val {p : Prg} (h : validB p = true) : ∃ vs, Val p vs := by
  simp only [validB, Bool.and_eq_true, decide_eq_true_eq] at h
  exact checkS_val h.2.2.2.2.2.1 h.2.1
end Go.Proofs.Ytiifbdkedainnaa.AL

set_option maxHeartbeats 8000000
set_option maxRecDepth 100000
set_option linter.unusedVariables false
set_option linter.unusedSimpArgs false
set_option linter.unusedSectionVars false
namespace Go.Proofs.Ytiifbdkedainnaa.Y
open Go.Proofs.Ytiifbdkedainnaa.AL Go.Proofs Go
attribute [local irreducible] AWP AWL AWG AWR AWE AWX AWO AWSeq AWSG AWSR AWSO AWSE AWSF GoodP OGW OGR OGE OGX PGW PGR PGE Wk AWLoop AWPD AWLD

theorem CCompile_ok {vs : List Un} (p : Prg) (hl : p.vars.length ≤ 1000000) (hok : okP p) (hz : p.name.size ≤ 2000000) (hzv : ∀ v ∈ p.vars, v.name.size ≤ 2000000) (hv : validB p = true)
    (v0 : stSL vs p.on0 = 0) (v1 : stSL vs p.on1 = 0) (v2 : stSL vs p.on2 = 0) (v3 : stSL vs p.on3 = 0) (v4 : stSL vs p.on4 = 0)
    (l0 : (codeSs p.on0 0).length ≤ 1000000000) (l1 : (codeSs p.on1 0).length ≤ 1000000000) (l2 : (codeSs p.on2 0).length ≤ 1000000000) (l3 : (codeSs p.on3 0).length ≤ 1000000000) (l4 : (codeSs p.on4 0).length ≤ 1000000000)
    (b0 : manyL p.on0 ≤ 1000000000) (b1 : manyL p.on1 ≤ 1000000000) (b2 : manyL p.on2 ≤ 1000000000) (b3 : manyL p.on3 ≤ 1000000000) (b4 : manyL p.on4 ≤ 1000000000) (H0 : List AObj) :
    ARun Try.prog 13 [.ag (cP p)] H0 (.ret (.tup [.ag (cC (compS p).1), .i (compS p).2]) H0) := by
  have c1 := fun H0 => CValid_run p hl hok hz hzv H0
  rw [hv] at c1
  have e : compS p = (if (codeSs p.on0 0).length ≤ 4000 ∧ (codeSs p.on1 0).length ≤ 4000 ∧ (codeSs p.on2 0).length ≤ 4000 ∧ (codeSs p.on3 0).length ≤ 4000 ∧ (codeSs p.on4 0).length ≤ 4000
      then (⟨codeSs p.on0 0, codeSs p.on1 0, codeSs p.on2 0, codeSs p.on3 0, codeSs p.on4 0⟩, 0) else (cod0, 2)) := by unfold compS; rw [if_pos hv]
  rw [e]
  clear e
  have w0 := fun wid H hw => wstmts0_run (vs := vs) wid p.on0 v0 l0 b0 H hw
  have w1 := fun wid H hw => wstmts0_run (vs := vs) wid p.on1 v1 l1 b1 H hw
  have w2 := fun wid H hw => wstmts0_run (vs := vs) wid p.on2 v2 l2 b2 H hw
  have w3 := fun wid H hw => wstmts0_run (vs := vs) wid p.on3 v3 l3 b3 H hw
  have w4 := fun wid H hw => wstmts0_run (vs := vs) wid p.on4 v4 l4 b4 H hw
  generalize codeSs p.on0 0 = C0 at *
  generalize codeSs p.on1 0 = C1 at *
  generalize codeSs p.on2 0 = C2 at *
  generalize codeSs p.on3 0 = C3 at *
  generalize codeSs p.on4 0 = C4 at *
  have q0 : (pvRows (C0.map encI)).length = C0.length := by simp [pvRows]
  have q1 : (pvRows (C1.map encI)).length = C1.length := by simp [pvRows]
  have q2 : (pvRows (C2.map encI)).length = C2.length := by simp [pvRows]
  have q3 : (pvRows (C3.map encI)).length = C3.length := by simp [pvRows]
  have q4 : (pvRows (C4.map encI)).length = C4.length := by simp [pvRows]
  have t0 : ((pvRows (C0.map encI)).drop 0).take C0.length = pvRows (C0.map encI) := by rw [List.drop_zero, List.take_of_length_le (by omega)]
  have t1 : ((pvRows (C1.map encI)).drop 0).take C1.length = pvRows (C1.map encI) := by rw [List.drop_zero, List.take_of_length_le (by omega)]
  have t2 : ((pvRows (C2.map encI)).drop 0).take C2.length = pvRows (C2.map encI) := by rw [List.drop_zero, List.take_of_length_le (by omega)]
  have t3 : ((pvRows (C3.map encI)).drop 0).take C3.length = pvRows (C3.map encI) := by rw [List.drop_zero, List.take_of_length_le (by omega)]
  have t4 : ((pvRows (C4.map encI)).drop 0).take C4.length = pvRows (C4.map encI) := by rw [List.drop_zero, List.take_of_length_le (by omega)]
  (refine ARun.intro Try.func13 rfl Try.call13 Try.ntmps13 Try.results13 ?_; simp only [List.length_cons, List.length_nil, List.length_map, Nat.reduceAdd, Nat.reduceSub, List.replicate_succ, List.replicate_zero, List.cons_append, List.nil_append])
  repeat' (first | refine awp_seq ?_ | refine awp_block ?_ | refine awp_scope ?_ | ((first | refine awp_region_k fun Kn Kp hn hp => ?_ | refine oge_intro (by assumption) ?_ | (show AWE _ _ _ _ _ _ _ _ _; first | refine awe_intro (c1 _) ?_) | (show AWSF _ _ _ _ _ _ _ _ _ _ _; first | refine awsf_intro (c1 _) (fun hrun => ?_)) | (show OGE _ _ _ _ _ _ _; first | refine oge_intro (c1 _) ?_) | (show AWSE _ _ _ _ _ _ _ _ _ _ _; first | refine awse_intro (c1 _) (fun hrun => ?_)) | (show PGE _ _ _ _ _; first | refine pge_intro (c1 _) (fun tm' => ?_))) <;> (simp only [go_sem, Nat.reduceAdd, Nat.reduceSub, Nat.reduceMul, Nat.reduceLeDiff, Nat.reduceLT, Nat.reduceEqDiff, Int.reduceToNat, Int.reduceAdd, Int.reduceMul, Int.reduceSub, Int.reduceLT, Int.reduceLE, Int.reduceEq, Int.reduceNeg, Int.reduceBEq, Int.reduceBNe, ↓reduceIte, reduceCtorEq] <;> try simp (disch := omega) only [wrap_of])) | (refine hn _ _ ?_; clear hn hp Kn Kp) | (refine hp _ _ _ ?_; clear hn hp Kn Kp) | (refine awp_cond rfl (fun hb => ?_) (fun hb => ?_) <;> (try simp only [decide_eq_true_eq, decide_eq_false_iff_not, Bool.not_eq_true', Bool.not_eq_false', Bool.true_eq_false, Bool.false_eq_true, beq_iff_eq, bne_iff_ne, bne_eq_false_iff_eq, beq_eq_false_iff_ne, gt_iff_lt, ge_iff_le, Int.reduceEq, Int.reduceNe, Int.reduceLT, Int.reduceLE, ne_eq, not_true_eq_false, not_false_eq_true] at hb)) | ((first | refine awg_split (fun hb => ?_) (fun hb => ?_) | refine awsg_split (fun hb => ?_) (fun hb => ?_)) <;> have hb0 := hb <;> (try simp only [decide_eq_true_eq, decide_eq_false_iff_not, Bool.not_eq_true', Bool.not_eq_false', Bool.true_eq_false, Bool.false_eq_true, beq_iff_eq, bne_iff_ne, bne_eq_false_iff_eq, beq_eq_false_iff_ne, gt_iff_lt, ge_iff_le, Int.reduceEq, Int.reduceNe, Int.reduceLT, Int.reduceLE, ne_eq, not_true_eq_false, not_false_eq_true] at hb0) <;> (try simp only [beq_true, beq_false, Bool.not_eq_true', Bool.not_eq_false'] at hb) <;> (simp only [go_sem, Nat.reduceAdd, Nat.reduceSub, Nat.reduceMul, Nat.reduceLeDiff, Nat.reduceLT, Nat.reduceEqDiff, Int.reduceToNat, Int.reduceAdd, Int.reduceMul, Int.reduceSub, Int.reduceLT, Int.reduceLE, Int.reduceEq, Int.reduceNeg, Int.reduceBEq, Int.reduceBNe, ↓reduceIte, reduceCtorEq, hb, hb0] <;> try simp (disch := omega) only [wrap_of])) | (refine And.intro ?_ ?_) | refine awp_skip ?_ | refine awp_ret ?_ | refine awp_exit ?_ | refine awp_label ?_ | refine awloop_step ?_ | (simp only [go_sem, Nat.reduceAdd, Nat.reduceSub, Nat.reduceMul, Nat.reduceLeDiff, Nat.reduceLT, Nat.reduceEqDiff, Int.reduceToNat, Int.reduceAdd, Int.reduceMul, Int.reduceSub, Int.reduceLT, Int.reduceLE, Int.reduceEq, Int.reduceNeg, Int.reduceBEq, Int.reduceBNe, ↓reduceIte, reduceCtorEq]) | fail)
  refine awp_loop 6 ?_
  repeat' (first | refine awp_seq ?_ | refine awp_block ?_ | refine awp_scope ?_ | ((first | refine awp_region_k fun Kn Kp hn hp => ?_ | refine oge_intro (by assumption) ?_ | (show AWE _ _ _ _ _ _ _ _ _; first | refine awe_intro (w0 _ _ (getOk _ _ _)) ?_ | refine awe_intro (w1 _ _ (getOk _ _ _)) ?_ | refine awe_intro (w2 _ _ (getOk _ _ _)) ?_ | refine awe_intro (w3 _ _ (getOk _ _ _)) ?_ | refine awe_intro (w4 _ _ (getOk _ _ _)) ?_) | (show AWSF _ _ _ _ _ _ _ _ _ _ _; first | refine awsf_intro (w0 _ _ (getOk _ _ _)) (fun hrun => ?_) | refine awsf_intro (w1 _ _ (getOk _ _ _)) (fun hrun => ?_) | refine awsf_intro (w2 _ _ (getOk _ _ _)) (fun hrun => ?_) | refine awsf_intro (w3 _ _ (getOk _ _ _)) (fun hrun => ?_) | refine awsf_intro (w4 _ _ (getOk _ _ _)) (fun hrun => ?_)) | (show OGE _ _ _ _ _ _ _; first | refine oge_intro (w0 _ _ (getOk _ _ _)) ?_ | refine oge_intro (w1 _ _ (getOk _ _ _)) ?_ | refine oge_intro (w2 _ _ (getOk _ _ _)) ?_ | refine oge_intro (w3 _ _ (getOk _ _ _)) ?_ | refine oge_intro (w4 _ _ (getOk _ _ _)) ?_) | (show AWSE _ _ _ _ _ _ _ _ _ _ _; first | refine awse_intro (w0 _ _ (getOk _ _ _)) (fun hrun => ?_) | refine awse_intro (w1 _ _ (getOk _ _ _)) (fun hrun => ?_) | refine awse_intro (w2 _ _ (getOk _ _ _)) (fun hrun => ?_) | refine awse_intro (w3 _ _ (getOk _ _ _)) (fun hrun => ?_) | refine awse_intro (w4 _ _ (getOk _ _ _)) (fun hrun => ?_)) | (show PGE _ _ _ _ _; first | refine pge_intro (w0 _ _ (getOk _ _ _)) (fun tm' => ?_) | refine pge_intro (w1 _ _ (getOk _ _ _)) (fun tm' => ?_) | refine pge_intro (w2 _ _ (getOk _ _ _)) (fun tm' => ?_) | refine pge_intro (w3 _ _ (getOk _ _ _)) (fun tm' => ?_) | refine pge_intro (w4 _ _ (getOk _ _ _)) (fun tm' => ?_))) <;> (simp only [go_sem, Nat.reduceAdd, Nat.reduceSub, Nat.reduceMul, Nat.reduceLeDiff, Nat.reduceLT, Nat.reduceEqDiff, Int.reduceToNat, Int.reduceAdd, Int.reduceMul, Int.reduceSub, Int.reduceLT, Int.reduceLE, Int.reduceEq, Int.reduceNeg, Int.reduceBEq, Int.reduceBNe, ↓reduceIte, reduceCtorEq, q0, q1, q2, q3, q4] <;> try simp (disch := omega) only [wrap_of])) | (refine hn _ _ ?_; clear hn hp Kn Kp) | (refine hp _ _ _ ?_; clear hn hp Kn Kp) | (simp (disch := omega) only [getSkip16, setSkip16, getAt1, setAt1, getAt2, setAt2, getAt3, setAt3, getAt4, setAt4, getAt5, setAt5, getAt6, setAt6, getAt7, setAt7, getAt8, setAt8, getAt9, setAt9, getAt10, setAt10, getAt11, setAt11, getAt12, setAt12, getAt13, setAt13, getAt14, setAt14, getAt15, setAt15, go_sem, Nat.reduceAdd, Nat.reduceSub, Nat.reduceMul, Nat.reduceLeDiff, Nat.reduceLT, Nat.reduceEqDiff, Int.reduceToNat, Int.reduceAdd, Int.reduceMul, Int.reduceSub, Int.reduceLT, Int.reduceLE, Int.reduceEq, Int.reduceNeg, Int.reduceBEq, Int.reduceBNe, ↓reduceIte, reduceCtorEq, q0, q1, q2, q3, q4, if_pos, if_neg, decide_pos', decide_neg', beq_pos', beq_neg', bne_pos', bne_neg', getE, wrap_of]) | (refine awp_cond_t rfl (by first | with_reducible rfl | (simp only [Bool.and_eq_true, Bool.or_eq_true, Bool.and_eq_false_iff, Bool.or_eq_false_iff, decide_eq_true_eq, decide_eq_false_iff_not, beq_iff_eq, bne_iff_ne, bne_eq_false_iff_eq, beq_eq_false_iff_ne, ne_eq, Bool.not_eq_true', Bool.not_eq_false', not_true_eq_false, not_false_eq_true]; omega)) ?_) | (refine awp_cond_f rfl (by first | with_reducible rfl | (simp only [Bool.and_eq_true, Bool.or_eq_true, Bool.and_eq_false_iff, Bool.or_eq_false_iff, decide_eq_true_eq, decide_eq_false_iff_not, beq_iff_eq, bne_iff_ne, bne_eq_false_iff_eq, beq_eq_false_iff_ne, ne_eq, Bool.not_eq_true', Bool.not_eq_false', not_true_eq_false, not_false_eq_true]; omega)) ?_) | (refine awp_cond rfl (fun hb => ?_) (fun hb => ?_) <;> (try simp only [decide_eq_true_eq, decide_eq_false_iff_not, Bool.not_eq_true', Bool.not_eq_false', Bool.true_eq_false, Bool.false_eq_true, beq_iff_eq, bne_iff_ne, Bool.or_eq_true, Bool.and_eq_true, Bool.or_eq_false_iff, Bool.and_eq_false_iff, bne_eq_false_iff_eq, beq_eq_false_iff_ne, gt_iff_lt, ge_iff_le, Int.reduceEq, Int.reduceNe, Int.reduceLT, Int.reduceLE, ne_eq, not_true_eq_false, not_false_eq_true] at hb)) | ((first | refine awg_split (fun hb => ?_) (fun hb => ?_) | refine awsg_split (fun hb => ?_) (fun hb => ?_)) <;> have hb0 := hb <;> (try simp only [decide_eq_true_eq, decide_eq_false_iff_not, Bool.not_eq_true', Bool.not_eq_false', Bool.true_eq_false, Bool.false_eq_true, beq_iff_eq, bne_iff_ne, Bool.or_eq_true, Bool.and_eq_true, Bool.or_eq_false_iff, Bool.and_eq_false_iff, bne_eq_false_iff_eq, beq_eq_false_iff_ne, gt_iff_lt, ge_iff_le, Int.reduceEq, Int.reduceNe, Int.reduceLT, Int.reduceLE, ne_eq, not_true_eq_false, not_false_eq_true] at hb0) <;> (try simp only [beq_true, beq_false, Bool.not_eq_true', Bool.not_eq_false'] at hb) <;> (simp only [go_sem, Nat.reduceAdd, Nat.reduceSub, Nat.reduceMul, Nat.reduceLeDiff, Nat.reduceLT, Nat.reduceEqDiff, Int.reduceToNat, Int.reduceAdd, Int.reduceMul, Int.reduceSub, Int.reduceLT, Int.reduceLE, Int.reduceEq, Int.reduceNeg, Int.reduceBEq, Int.reduceBNe, ↓reduceIte, reduceCtorEq, q0, q1, q2, q3, q4, hb, hb0] <;> try simp (disch := omega) only [wrap_of])) | (refine And.intro ?_ ?_) | refine awp_skip ?_ | refine awp_ret ?_ | refine awp_exit ?_ | refine awp_label ?_ | refine awloop_step ?_ | fail)
  all_goals first
    | (refine ⟨_, rfl, _, rfl, Fin.pureC 2 ?_⟩
       simp only [AV.low, List.map_cons, List.map_nil, cod0]
       exact Cv.tup ⟨Cv.agg ⟨Cv.nil (by decide), Cv.nil (by decide), Cv.nil (by decide), Cv.nil (by decide), Cv.nil (by decide), trivial⟩, Cv.refl _, trivial⟩)
    | (refine ⟨_, rfl, _, rfl, Fin.pure 2 ?_⟩
       simp only [AV.low, List.map_cons, List.map_nil, AV.toPV, AV.toPVr, getOk, List.getElem?_cons_succ, List.getElem?_cons_zero, q0, q1, q2, q3, q4, true_and, Nat.le_add_right, not_lt_k, if_false, if_true, t0, t1, t2, t3, t4]
       simp only [pvRows, toPVs_pvs, Option.map_some]
       rfl)
theorem CCompile_run (p : Prg) (hl : p.vars.length ≤ 1000000) (hz : p.name.size ≤ 2000000) (hzv : ∀ v ∈ p.vars, v.name.size ≤ 2000000) (hw : wSL p.on0 + wSL p.on1 + wSL p.on2 + wSL p.on3 + wSL p.on4 ≤ 900000) (H0 : List AObj) :
    ARun Try.prog 13 [.ag (cP p)] H0 (.ret (.tup [.ag (cC (compS p).1), .i (compS p).2]) H0) := by
  have hok := okP_of hw
  cases hv : validB p with
  | false => exact CCompile_bad p hl hok hz hzv hv H0
  | true =>
    obtain ⟨vs, V⟩ := validB_val hv
    have l0 : (codeSs p.on0 0).length ≤ 1000000000 := by rw [codeSs_len _ V.h0.1]; have := insSL_le p.on0; omega
    have b0 : manyL p.on0 ≤ 1000000000 := by have := V.h0.2.2; omega
    have l1 : (codeSs p.on1 0).length ≤ 1000000000 := by rw [codeSs_len _ V.h1.1]; have := insSL_le p.on1; omega
    have b1 : manyL p.on1 ≤ 1000000000 := by have := V.h1.2.2; omega
    have l2 : (codeSs p.on2 0).length ≤ 1000000000 := by rw [codeSs_len _ V.h2.1]; have := insSL_le p.on2; omega
    have b2 : manyL p.on2 ≤ 1000000000 := by have := V.h2.2.2; omega
    have l3 : (codeSs p.on3 0).length ≤ 1000000000 := by rw [codeSs_len _ V.h3.1]; have := insSL_le p.on3; omega
    have b3 : manyL p.on3 ≤ 1000000000 := by have := V.h3.2.2; omega
    have l4 : (codeSs p.on4 0).length ≤ 1000000000 := by rw [codeSs_len _ V.h4.1]; have := insSL_le p.on4; omega
    have b4 : manyL p.on4 ≤ 1000000000 := by have := V.h4.2.2; omega
    exact CCompile_ok p hl hok hz hzv hv V.h0.1 V.h1.1 V.h2.1 V.h3.1 V.h4.1 l0 l1 l2 l3 l4 b0 b1 b2 b3 b4 H0
end Go.Proofs.Ytiifbdkedainnaa.Y

/- The stack machine's object in memory. -/
set_option linter.unusedVariables false
set_option linter.unusedSectionVars false
namespace Go.Proofs.Ytiifbdkedainnaa.AL
/-- A machine: variables, the state's row, inputs, stack, height, place, steps. -/
def mc (vs : List Vr) (is n : Nat) (i0 i1 i2 i3 : Int) (stk : List Int) (h at' st : Int) : List AV :=
  .rs 5 (vs.map encV) :: .os is 0 n n :: .i i0 :: .i i1 :: .i i2 :: .i i3 :: (stk.map AV.i ++ [.i h, .i at', .i st])
section
variable {vs : List Vr} {is n : Nat} {i0 i1 i2 i3 : Int} {stk : List Int} {h at' st : Int}
theorem mc_len (hs : stk.length = 64) : (mc vs is n i0 i1 i2 i3 stk h at' st).length = 73 := by simp [mc, hs]
theorem mc_vars : (mc vs is n i0 i1 i2 i3 stk h at' st)[0]? = some (.rs 5 (vs.map encV)) := rfl
theorem mc_state : (mc vs is n i0 i1 i2 i3 stk h at' st)[1]? = some (.os is 0 n n) := rfl
theorem mc_in {k : Nat} (hk : k < 4) : (mc vs is n i0 i1 i2 i3 stk h at' st)[2 + k]? = some (.i (if k = 0 then i0 else if k = 1 then i1 else if k = 2 then i2 else i3)) := by
  have : k = 0 ∨ k = 1 ∨ k = 2 ∨ k = 3 := by omega
  rcases this with rfl | rfl | rfl | rfl <;> rfl
theorem mc_stk {k : Nat} {v : Int} (hk : stk[k]? = some v) : (mc vs is n i0 i1 i2 i3 stk h at' st)[6 + k]? = some (.i v) := by
  have hl := (List.getElem?_eq_some_iff.1 hk).1
  rw [Nat.add_comm]
  simp only [mc, List.getElem?_cons_succ]
  rw [List.getElem?_append_left (by simpa using hl), List.getElem?_map, hk]; rfl
theorem mc_h (hs : stk.length = 64) : (mc vs is n i0 i1 i2 i3 stk h at' st)[70]? = some (.i h) := by
  simp only [mc, List.getElem?_cons_succ]
  rw [List.getElem?_append_right (by simp [hs])]; simp [hs]
theorem mc_at (hs : stk.length = 64) : (mc vs is n i0 i1 i2 i3 stk h at' st)[71]? = some (.i at') := by
  simp only [mc, List.getElem?_cons_succ]
  rw [List.getElem?_append_right (by simp [hs])]; simp [hs]
theorem mc_st (hs : stk.length = 64) : (mc vs is n i0 i1 i2 i3 stk h at' st)[72]? = some (.i st) := by
  simp only [mc, List.getElem?_cons_succ]
  rw [List.getElem?_append_right (by simp [hs])]; simp [hs]
theorem splice_set {k : Nat} {l : List AV} {x : AV} (hk : k < l.length) : aSplice k [x] l = l.set k x := by
  unfold aSplice
  rw [List.set_eq_take_append_cons_drop, if_pos hk]
  simp
theorem take_drop_set {k : Nat} {l : List AV} {x : AV} (hk : k < l.length) : l.take k ++ (x :: l.drop (k + 1)) = l.set k x := by
  rw [List.set_eq_take_append_cons_drop, if_pos hk]
theorem mc_push {k : Nat} {x : Int} (hs : stk.length = 64) (hk : k < 64) : List.take (6 + k) (mc vs is n i0 i1 i2 i3 stk h at' st) ++ (.pv (.sc (.int .i64 x)) :: List.drop (6 + (k + 1)) (mc vs is n i0 i1 i2 i3 stk h at' st)) = mc vs is n i0 i1 i2 i3 (stk.set k x) h at' st := by
  rw [show 6 + (k + 1) = (6 + k) + 1 by omega, take_drop_set (by rw [mc_len hs]; omega), Nat.add_comm]
  simp only [mc, List.set_cons_succ]
  rw [List.set_append_left (h := by simpa [hs] using hk), List.map_set]
theorem mc_seth {x : Int} (hs : stk.length = 64) : List.take 70 (mc vs is n i0 i1 i2 i3 stk h at' st) ++ (.pv (.sc (.int .i64 x)) :: List.drop 71 (mc vs is n i0 i1 i2 i3 stk h at' st)) = mc vs is n i0 i1 i2 i3 stk x at' st := by
  rw [take_drop_set (by rw [mc_len hs]; omega)]
  simp only [mc, List.set_cons_succ]
  rw [List.set_append_right (h := by simp [hs])]; simp [hs]
theorem mc_setat {x : Int} (hs : stk.length = 64) : List.take 71 (mc vs is n i0 i1 i2 i3 stk h at' st) ++ (.pv (.sc (.int .i64 x)) :: List.drop 72 (mc vs is n i0 i1 i2 i3 stk h at' st)) = mc vs is n i0 i1 i2 i3 stk h x st := by
  rw [take_drop_set (by rw [mc_len hs]; omega)]
  simp only [mc, List.set_cons_succ]
  rw [List.set_append_right (h := by simp [hs])]; simp [hs]
theorem mc_setst {x : Int} (hs : stk.length = 64) : List.take 72 (mc vs is n i0 i1 i2 i3 stk h at' st) ++ (.pv (.sc (.int .i64 x)) :: List.drop 73 (mc vs is n i0 i1 i2 i3 stk h at' st)) = mc vs is n i0 i1 i2 i3 stk h at' x := by
  rw [take_drop_set (by rw [mc_len hs]; omega)]
  simp only [mc, List.set_cons_succ]
  rw [List.set_append_right (h := by simp [hs])]; simp [hs]
theorem mc_under {m t : Nat} (hi : is < m) : (AObj.cells t (mc vs is n i0 i1 i2 i3 stk h at' st)).under m := by
  intro c hc
  simp only [mc, List.mem_cons, List.mem_append, List.mem_map, List.not_mem_nil, or_false] at hc
  rcases hc with rfl | rfl | rfl | rfl | rfl | rfl | ⟨_, _, rfl⟩ | rfl | rfl | rfl <;> simp [AV.under, hi]
end
end Go.Proofs.Ytiifbdkedainnaa.AL
namespace Go.Proofs.Ytiifbdkedainnaa.AL
theorem row_set {now : List Int} {j : Nat} {x : Int} : (now.map fun v => [AV.i v]).set j [.pv (.sc (.int .i64 x))] = (now.set j x).map fun v => [AV.i v] := by rw [List.map_set]
theorem row_under {t sz m : Nat} {now : List Int} : (AObj.arr t sz (now.map fun v => [AV.i v])).under m := by
  simp [AObj.under, AV.under]
end Go.Proofs.Ytiifbdkedainnaa.AL
namespace Go.Proofs.Ytiifbdkedainnaa.AL
theorem mc_stkE {stk : List Int} {k : Nat} {v : Int} (hk : stk[k]? = some v) (vs : List Vr) (is n : Nat) (i0 i1 i2 i3 h at' st : Int) : (mc vs is n i0 i1 i2 i3 stk h at' st)[6 + k]? = some (.i v) := mc_stk hk
theorem mc_pushE {stk : List Int} {k : Nat} (hs : stk.length = 64) (hk : k < 64) (vs : List Vr) (is n : Nat) (i0 i1 i2 i3 h at' st x : Int) :
    List.take (6 + k) (mc vs is n i0 i1 i2 i3 stk h at' st) ++ (.pv (.sc (.int .i64 x)) :: List.drop (6 + (k + 1)) (mc vs is n i0 i1 i2 i3 stk h at' st)) = mc vs is n i0 i1 i2 i3 (stk.set k x) h at' st := mc_push hs hk
end Go.Proofs.Ytiifbdkedainnaa.AL

set_option maxHeartbeats 8000000
set_option maxRecDepth 20000
set_option linter.unusedVariables false
set_option linter.unusedSimpArgs false
namespace Go.Proofs.Ytiifbdkedainnaa.Y
open Go.Proofs.Ytiifbdkedainnaa.AL Go.Proofs Go
attribute [local irreducible] AWP AWL AWG AWR AWE AWX AWO AWSeq AWSG AWSR AWSO AWSE AWSF GoodP OGW OGR OGE OGX PGW PGR PGE Wk AWLoop AWPD AWLD

theorem inside_run (n lo hi : Int) (H0 : List AObj) : ARun Try.prog 28 [.i n, .i lo, .i hi] H0 (.ret (.b (decide (lo ≤ n) && decide (n ≤ hi))) H0) := by
  by_cases h1 : lo ≤ n
  · (refine ARun.intro Try.func28 rfl Try.call28 Try.ntmps28 Try.results28 ?_; simp only [List.length_cons, List.length_nil, List.length_map, Nat.reduceAdd, Nat.reduceSub, List.replicate_succ, List.replicate_zero, List.cons_append, List.nil_append])
    (have ww1 := h1; refine wk ?_; clear ww1; (repeat' first | exact True.intro | refine Lf.mk ?_ ?_); all_goals intro hP)
    (refine resX ?_; try exact True.intro)
    simp [h1]
  · (refine ARun.intro Try.func28 rfl Try.call28 Try.ntmps28 Try.results28 ?_; simp only [List.length_cons, List.length_nil, List.length_map, Nat.reduceAdd, Nat.reduceSub, List.replicate_succ, List.replicate_zero, List.cons_append, List.nil_append])
    (have ww1 := h1; refine wk ?_; clear ww1; (repeat' first | exact True.intro | refine Lf.mk ?_ ?_); all_goals intro hP)
    (refine resX ?_; try exact True.intro)
    simp [h1]
section
variable (vs : List Vr) (is n : Nat) (i0 i1 i2 i3 : Int) (stk : List Int) (hs : stk.length = 64) (at' st : Int) (id : Nat)
include hs
omit hs in
end
end Go.Proofs.Ytiifbdkedainnaa.Y

set_option maxHeartbeats 8000000
set_option maxRecDepth 20000
set_option linter.unusedVariables false
set_option linter.unusedSimpArgs false
set_option linter.unusedSectionVars false
namespace Go.Proofs.Ytiifbdkedainnaa.Y
open Go.Proofs.Ytiifbdkedainnaa.AL Go.Proofs Go
attribute [local irreducible] AWP AWL AWG AWR AWE AWX AWO AWSeq AWSG AWSR AWSO AWSE AWSF GoodP OGW OGR OGE OGX PGW PGR PGE Wk AWLoop AWPD AWLD

theorem cfits_run (op nn rel i len vars : Int) (hi : 0 ≤ i ∧ i < 10000) (hv : 0 ≤ vars ∧ vars ≤ 12) (H0 : List AObj) :
    ARun Try.prog 50 [.agg [.i op, .i nn, .i rel], .i i, .i len, .i vars] H0 (.ret (.b (insOk ⟨op, nn, rel⟩ i len vars)) H0) := by
  have w1 : IntKind.i64.wrap (vars - 1) = vars - 1 := wrap_of (by omega) (by omega)
  have w2 : IntKind.i64.wrap (i + 1) = i + 1 := wrap_of (by omega) (by omega)
  by_cases h1 : op = 1
  · subst h1
    by_cases hr : rel = 0
    · subst hr
      (refine ARun.intro Try.func50 rfl Try.call50 Try.ntmps50 Try.results50 ?_; simp only [List.length_cons, List.length_nil, List.length_map, Nat.reduceAdd, Nat.reduceSub, List.replicate_succ, List.replicate_zero, List.cons_append, List.nil_append])
      (have ww1 := w1; have ww2 := w2; have cc1 := fun z1 => inside_run nn (-1000000000000) (1000000000000) z1; refine wk ?_; clear ww1 ww2 cc1; (repeat' first | exact True.intro | refine Lf.mk ?_ ?_); all_goals intro hP)
      (refine resX ?_; try exact True.intro)
      all_goals simp [insOk]
      all_goals (try first | omega | (rw [Bool.eq_iff_iff]; simp; omega))
    · have hr' : (rel == 0) = false := by simpa using hr
      (refine ARun.intro Try.func50 rfl Try.call50 Try.ntmps50 Try.results50 ?_; simp only [List.length_cons, List.length_nil, List.length_map, Nat.reduceAdd, Nat.reduceSub, List.replicate_succ, List.replicate_zero, List.cons_append, List.nil_append])
      (have ww1 := w1; have ww2 := w2; have ww3 := hr'; refine wk ?_; clear ww1 ww2 ww3; (repeat' first | exact True.intro | refine Lf.mk ?_ ?_); all_goals intro hP)
      (refine resX ?_; try exact True.intro)
      all_goals simp [insOk, hr]
  by_cases h2 : op = 2
  · subst h2
    by_cases hr : rel = 0
    · subst hr
      (refine ARun.intro Try.func50 rfl Try.call50 Try.ntmps50 Try.results50 ?_; simp only [List.length_cons, List.length_nil, List.length_map, Nat.reduceAdd, Nat.reduceSub, List.replicate_succ, List.replicate_zero, List.cons_append, List.nil_append])
      (have ww1 := w1; have ww2 := w2; have cc1 := fun z1 => inside_run nn (0) (vars - 1) z1; refine wk ?_; clear ww1 ww2 cc1; (repeat' first | exact True.intro | refine Lf.mk ?_ ?_); all_goals intro hP)
      (refine resX ?_; try exact True.intro)
      all_goals simp [insOk]
      all_goals (try first | omega | (rw [Bool.eq_iff_iff]; simp; omega))
    · have hr' : (rel == 0) = false := by simpa using hr
      (refine ARun.intro Try.func50 rfl Try.call50 Try.ntmps50 Try.results50 ?_; simp only [List.length_cons, List.length_nil, List.length_map, Nat.reduceAdd, Nat.reduceSub, List.replicate_succ, List.replicate_zero, List.cons_append, List.nil_append])
      (have ww1 := w1; have ww2 := w2; have ww3 := hr'; refine wk ?_; clear ww1 ww2 ww3; (repeat' first | exact True.intro | refine Lf.mk ?_ ?_); all_goals intro hP)
      (refine resX ?_; try exact True.intro)
      all_goals simp [insOk, hr]
  by_cases h11 : op = 11
  · subst h11
    by_cases hr : rel = 0
    · subst hr
      (refine ARun.intro Try.func50 rfl Try.call50 Try.ntmps50 Try.results50 ?_; simp only [List.length_cons, List.length_nil, List.length_map, Nat.reduceAdd, Nat.reduceSub, List.replicate_succ, List.replicate_zero, List.cons_append, List.nil_append])
      (have ww1 := w1; have ww2 := w2; have cc1 := fun z1 => inside_run nn (0) (vars - 1) z1; refine wk ?_; clear ww1 ww2 cc1; (repeat' first | exact True.intro | refine Lf.mk ?_ ?_); all_goals intro hP)
      (refine resX ?_; try exact True.intro)
      all_goals simp [insOk]
      all_goals (try first | omega | (rw [Bool.eq_iff_iff]; simp; omega))
    · have hr' : (rel == 0) = false := by simpa using hr
      (refine ARun.intro Try.func50 rfl Try.call50 Try.ntmps50 Try.results50 ?_; simp only [List.length_cons, List.length_nil, List.length_map, Nat.reduceAdd, Nat.reduceSub, List.replicate_succ, List.replicate_zero, List.cons_append, List.nil_append])
      (have ww1 := w1; have ww2 := w2; have ww3 := hr'; refine wk ?_; clear ww1 ww2 ww3; (repeat' first | exact True.intro | refine Lf.mk ?_ ?_); all_goals intro hP)
      (refine resX ?_; try exact True.intro)
      all_goals simp [insOk, hr]
  by_cases h3 : op = 3
  · subst h3
    by_cases hr : rel = 0
    · subst hr
      (refine ARun.intro Try.func50 rfl Try.call50 Try.ntmps50 Try.results50 ?_; simp only [List.length_cons, List.length_nil, List.length_map, Nat.reduceAdd, Nat.reduceSub, List.replicate_succ, List.replicate_zero, List.cons_append, List.nil_append])
      (have ww1 := w1; have ww2 := w2; have cc1 := fun z1 => inside_run nn (0) (3) z1; refine wk ?_; clear ww1 ww2 cc1; (repeat' first | exact True.intro | refine Lf.mk ?_ ?_); all_goals intro hP)
      (refine resX ?_; try exact True.intro)
      all_goals simp [insOk]
      all_goals (try first | omega | (rw [Bool.eq_iff_iff]; simp; omega))
    · have hr' : (rel == 0) = false := by simpa using hr
      (refine ARun.intro Try.func50 rfl Try.call50 Try.ntmps50 Try.results50 ?_; simp only [List.length_cons, List.length_nil, List.length_map, Nat.reduceAdd, Nat.reduceSub, List.replicate_succ, List.replicate_zero, List.cons_append, List.nil_append])
      (have ww1 := w1; have ww2 := w2; have ww3 := hr'; refine wk ?_; clear ww1 ww2 ww3; (repeat' first | exact True.intro | refine Lf.mk ?_ ?_); all_goals intro hP)
      (refine resX ?_; try exact True.intro)
      all_goals simp [insOk, hr]
  by_cases h12 : op = 12
  · subst h12
    by_cases hd : i < nn ∧ nn ≤ len
    · have hin : (decide (i + 1 ≤ nn) && decide (nn ≤ len)) = true := by simp; omega
      have hc := inside_run nn (i + 1) len
      simp only [hin] at hc
      (refine ARun.intro Try.func50 rfl Try.call50 Try.ntmps50 Try.results50 ?_; simp only [List.length_cons, List.length_nil, List.length_map, Nat.reduceAdd, Nat.reduceSub, List.replicate_succ, List.replicate_zero, List.cons_append, List.nil_append])
      (have ww1 := w1; have ww2 := w2; have cc1 := fun z1 => hc z1; have cc2 := fun z1 => inside_run rel 1 6 z1; refine wk ?_; clear ww1 ww2 cc1 cc2; (repeat' first | exact True.intro | refine Lf.mk ?_ ?_); all_goals intro hP)
      (refine resX ?_; try exact True.intro)
      all_goals simp [insOk]
      all_goals (try first | omega | (rw [Bool.eq_iff_iff]; simp; omega))
    · have hin : (decide (i + 1 ≤ nn) && decide (nn ≤ len)) = false := by simp; omega
      have hc := inside_run nn (i + 1) len
      simp only [hin] at hc
      (refine ARun.intro Try.func50 rfl Try.call50 Try.ntmps50 Try.results50 ?_; simp only [List.length_cons, List.length_nil, List.length_map, Nat.reduceAdd, Nat.reduceSub, List.replicate_succ, List.replicate_zero, List.cons_append, List.nil_append])
      (have ww1 := w1; have ww2 := w2; have cc1 := fun z1 => hc z1; refine wk ?_; clear ww1 ww2 cc1; (repeat' first | exact True.intro | refine Lf.mk ?_ ?_); all_goals intro hP)
      (refine resX ?_; try exact True.intro)
      all_goals simp [insOk]
      all_goals (try first | omega | (rw [Bool.eq_iff_iff]; simp; omega))
  by_cases h13 : op = 13
  · subst h13
    by_cases hr : rel = 0
    · subst hr
      (refine ARun.intro Try.func50 rfl Try.call50 Try.ntmps50 Try.results50 ?_; simp only [List.length_cons, List.length_nil, List.length_map, Nat.reduceAdd, Nat.reduceSub, List.replicate_succ, List.replicate_zero, List.cons_append, List.nil_append])
      (have ww1 := w1; have ww2 := w2; have cc1 := fun z1 => inside_run nn (i + 1) (len) z1; refine wk ?_; clear ww1 ww2 cc1; (repeat' first | exact True.intro | refine Lf.mk ?_ ?_); all_goals intro hP)
      (refine resX ?_; try exact True.intro)
      all_goals simp [insOk]
      all_goals (try first | omega | (rw [Bool.eq_iff_iff]; simp; omega))
    · have hr' : (rel == 0) = false := by simpa using hr
      (refine ARun.intro Try.func50 rfl Try.call50 Try.ntmps50 Try.results50 ?_; simp only [List.length_cons, List.length_nil, List.length_map, Nat.reduceAdd, Nat.reduceSub, List.replicate_succ, List.replicate_zero, List.cons_append, List.nil_append])
      (have ww1 := w1; have ww2 := w2; have ww3 := hr'; refine wk ?_; clear ww1 ww2 ww3; (repeat' first | exact True.intro | refine Lf.mk ?_ ?_); all_goals intro hP)
      (refine resX ?_; try exact True.intro)
      all_goals simp [insOk, hr]
  have e1 : (op == 1) = false := by simpa using h1
  have e2 : (op == 2) = false := by simpa using h2
  have e11 : (op == 11) = false := by simpa using h11
  have e3 : (op == 3) = false := by simpa using h3
  have e12 : (op == 12) = false := by simpa using h12
  have e13 : (op == 13) = false := by simpa using h13
  by_cases hr : rel = 0
  · subst hr
    by_cases hn0 : nn = 0
    · subst hn0
      (refine ARun.intro Try.func50 rfl Try.call50 Try.ntmps50 Try.results50 ?_; simp only [List.length_cons, List.length_nil, List.length_map, Nat.reduceAdd, Nat.reduceSub, List.replicate_succ, List.replicate_zero, List.cons_append, List.nil_append])
      (have ww1 := w1; have ww2 := w2; have ww3 := e1; have ww4 := e2; have ww5 := e11; have ww6 := e3; have ww7 := e12; have ww8 := e13; have cc1 := fun z1 => inside_run op 4 10 z1; refine wk ?_; clear ww1 ww2 ww3 ww4 ww5 ww6 ww7 ww8 cc1; (repeat' first | exact True.intro | refine Lf.mk ?_ ?_); all_goals intro hP)
      (refine resX ?_; try exact True.intro)
      all_goals simp [insOk, h1, h2, h3, h11, h12, h13]
    · have hn' : (nn == 0) = false := by simpa using hn0
      (refine ARun.intro Try.func50 rfl Try.call50 Try.ntmps50 Try.results50 ?_; simp only [List.length_cons, List.length_nil, List.length_map, Nat.reduceAdd, Nat.reduceSub, List.replicate_succ, List.replicate_zero, List.cons_append, List.nil_append])
      (have ww1 := w1; have ww2 := w2; have ww3 := e1; have ww4 := e2; have ww5 := e11; have ww6 := e3; have ww7 := e12; have ww8 := e13; have ww9 := hn'; refine wk ?_; clear ww1 ww2 ww3 ww4 ww5 ww6 ww7 ww8 ww9; (repeat' first | exact True.intro | refine Lf.mk ?_ ?_); all_goals intro hP)
      (refine resX ?_; try exact True.intro)
      all_goals simp [insOk, h1, h2, h3, h11, h12, h13, hn0]
  · have hr' : (rel == 0) = false := by simpa using hr
    (refine ARun.intro Try.func50 rfl Try.call50 Try.ntmps50 Try.results50 ?_; simp only [List.length_cons, List.length_nil, List.length_map, Nat.reduceAdd, Nat.reduceSub, List.replicate_succ, List.replicate_zero, List.cons_append, List.nil_append])
    (have ww1 := w1; have ww2 := w2; have ww3 := e1; have ww4 := e2; have ww5 := e11; have ww6 := e3; have ww7 := e12; have ww8 := e13; have ww9 := hr'; refine wk ?_; clear ww1 ww2 ww3 ww4 ww5 ww6 ww7 ww8 ww9; (repeat' first | exact True.intro | refine Lf.mk ?_ ?_); all_goals intro hP)
    (refine resX ?_; try exact True.intro)
    all_goals simp [insOk, h1, h2, h3, h11, h12, h13, hr]
abbrev effP : List PV := [.i 0, .i 0, .i 0, .i 1, .i 0, .i 1, .i 0, .i 1, .i 2, .i 1, .i 2, .i 1, .i 2, .i 1, .i 2, .i 1, .i 2, .i 1, .i 2, .i 1, .i 2, .i 1, .i 1, .i 0, .i 2, .i 0, .i 0, .i 0]
theorem effects_run (H0 : List AObj) : ARun Try.prog 48 [] H0 (.ret (.agg (effP.map AV.pv)) H0) := by
  (refine ARun.intro Try.func48 rfl Try.call48 Try.ntmps48 Try.results48 ?_; simp only [List.length_cons, List.length_nil, List.length_map, Nat.reduceAdd, Nat.reduceSub, List.replicate_succ, List.replicate_zero, List.cons_append, List.nil_append])
  (refine wk ?_; (repeat' first | exact True.intro | refine Lf.mk ?_ ?_); all_goals intro hP)
  (refine resX ?_; try exact True.intro)
end Go.Proofs.Ytiifbdkedainnaa.Y

set_option maxHeartbeats 8000000
set_option maxRecDepth 20000
set_option linter.unusedVariables false
set_option linter.unusedSimpArgs false
set_option linter.unusedSectionVars false
namespace Go.Proofs.Ytiifbdkedainnaa.Y
open Go.Proofs.Ytiifbdkedainnaa.AL Go.Proofs Go
attribute [local irreducible] AWP AWL AWG AWR AWE AWX AWO AWSeq AWSG AWSR AWSO AWSE AWSF GoodP OGW OGR OGE OGX PGW PGR PGE Wk AWLoop AWPD AWLD

abbrev rW (now : List Int) : AObj := .arr 3 1 (now.map fun v => [AV.i v])
theorem reach_run (hs : List Int) (n : Nat) (hn' : hs.length = n) (a : Nat) (y h : Int) (hy : hs[a]? = some y) (t : TypeId) (cid rid : Nat) (H0 : List AObj) (hc : H0[cid]? = some (.cells t [.os rid 0 n n])) (hr : H0[rid]? = some (rW hs)) (hne : rid ≠ cid) :
    ARun Try.prog 49 [.i (a : Nat), .i h, .p cid 0] H0 (.ret (.b (y == -1 || y == h)) (H0.set rid (rW (hs.set a h)))) := by
  have han : (a : Int) < n := by have := (List.getElem?_eq_some_iff.1 hy).1; omega
  have hy' : (hs.map fun v => [AV.i v])[a]? = some [AV.i y] := by rw [List.getElem?_map, hy]; rfl
  by_cases h1 : y = -1
  · subst h1
    (refine ARun.intro Try.func49 rfl Try.call49 Try.ntmps49 Try.results49 ?_; simp only [List.length_cons, List.length_nil, List.length_map, Nat.reduceAdd, Nat.reduceSub, List.replicate_succ, List.replicate_zero, List.cons_append, List.nil_append])
    (have ww1 := hc; have ww2 := hr; have ww3 := getSet hr; have ww4 := han; have ww5 := hy; have ww6 := hy'; have ww7 := hn'; have ww8 := @row_set; refine wkS ?_; clear ww1 ww2 ww3 ww4 ww5 ww6 ww7 ww8; (repeat' first | exact True.intro | refine Lf.mk ?_ ?_); all_goals intro hP)
    ((try simp only [go_sem, Nat.reduceAdd, Nat.reduceSub, Nat.reduceMul, Nat.reduceLeDiff, Nat.reduceLT, Nat.reduceEqDiff, Int.reduceToNat, Int.reduceAdd, Int.reduceMul, Int.reduceSub, Int.reduceLT, Int.reduceLE, Int.reduceEq, Int.reduceNeg, Int.reduceBEq, Int.reduceBNe, ↓reduceIte, reduceCtorEq]); (first | refine ⟨_, rfl, _, rfl, Fin.set0 1 ?_ ?_⟩ | refine ⟨_, rfl, _, rfl, Fin.set 1 ?_ ?_⟩))
    · exact row_under
    · simp only [AV.low]; simp
  · have h1' : (y == -1) = false := by simpa using h1
    (refine ARun.intro Try.func49 rfl Try.call49 Try.ntmps49 Try.results49 ?_; simp only [List.length_cons, List.length_nil, List.length_map, Nat.reduceAdd, Nat.reduceSub, List.replicate_succ, List.replicate_zero, List.cons_append, List.nil_append])
    (have ww1 := hc; have ww2 := hr; have ww3 := getSet hr; have ww4 := han; have ww5 := hy; have ww6 := hy'; have ww7 := h1'; have ww8 := hn'; have ww9 := @row_set; refine wkS ?_; clear ww1 ww2 ww3 ww4 ww5 ww6 ww7 ww8 ww9; (repeat' first | exact True.intro | refine Lf.mk ?_ ?_); all_goals intro hP)
    ((try simp only [go_sem, Nat.reduceAdd, Nat.reduceSub, Nat.reduceMul, Nat.reduceLeDiff, Nat.reduceLT, Nat.reduceEqDiff, Int.reduceToNat, Int.reduceAdd, Int.reduceMul, Int.reduceSub, Int.reduceLT, Int.reduceLE, Int.reduceEq, Int.reduceNeg, Int.reduceBEq, Int.reduceBNe, ↓reduceIte, reduceCtorEq]); (first | refine ⟨_, rfl, _, rfl, Fin.set0 1 ?_ ?_⟩ | refine ⟨_, rfl, _, rfl, Fin.set 1 ?_ ?_⟩))
    · exact row_under
    · simp only [AV.low]; simp [h1]
end Go.Proofs.Ytiifbdkedainnaa.Y
