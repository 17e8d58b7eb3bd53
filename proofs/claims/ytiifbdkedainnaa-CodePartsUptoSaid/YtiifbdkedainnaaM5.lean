/- Part 5 of the proofs of seat Ytiifbdkedainnaa: what the texts behind it lean on (abstract memory, walks of functions, plain laws). -/
import Derived.Test.YtiifbdkedainnaaM4
import Derived.Test.YtiifbdkedainnaaRows

set_option maxHeartbeats 8000000
set_option maxRecDepth 100000
set_option linter.unusedVariables false
set_option linter.unusedSimpArgs false
set_option linter.unusedSectionVars false
namespace Go.Proofs.Ytiifbdkedainnaa.Y
open Go.Proofs.Ytiifbdkedainnaa.AL Go.Proofs Go
attribute [local irreducible] AWP AWL AWG AWR AWE AWX AWO AWSeq AWSG AWSR AWSO AWSE AWSF GoodP OGW OGR OGE OGX PGW PGR PGE Wk AWLoop AWPD AWLD

theorem empty_iff (s : ByteArray) : (s.toList == (⟨#[]⟩ : ByteArray).toList) = decide (s.size = 0) := by
  rw [Bool.eq_iff_iff, beq_iff_eq, decide_eq_true_eq]
  have : ∀ a : ByteArray, a.toList = a.data.toList := fun a => ByteArray.toList_eq a
  rw [this, this]
  have h2 : s.size = s.data.toList.length := by rw [Array.length_toList]; rfl
  rw [h2, List.length_eq_zero_iff]
theorem isName_run (s : ByteArray) (hs : s.size ≤ 2000000) (H0 : List AObj) :
    ARun Try.prog 82 [aStr s] H0 (.ret (.b (nameB s)) H0) := by
  have u1 := fun H0 => isKey_run s H0
  have he := empty_iff s
  have hz := bytesZ_len s
  have hm : s.size ≤ maxLen := Nat.le_trans hs (by decide)
  by_cases h0 : s.size = 0
  · rw [decide_eq_true h0] at he
    have hn : nameB s = false := by unfold nameB; rw [h0]; simp
    rw [hn]
    (refine ARun.intro Try.func82 rfl Try.call82 Try.ntmps82 Try.results82 ?_; simp only [List.length_cons, List.length_nil, List.length_map, Nat.reduceAdd, Nat.reduceSub, List.replicate_succ, List.replicate_zero, List.cons_append, List.nil_append])
    (have ww1 := he; refine wk ?_; clear ww1; (repeat' first | exact True.intro | refine Lf.mk ?_ ?_); all_goals intro hP)
    (refine resX ?_; try exact True.intro)
  rw [decide_eq_false h0] at he
  by_cases h12 : 12 < s.size
  · have hn : nameB s = false := by unfold nameB; rw [show decide (s.size ≤ 12) = false from decide_eq_false (by omega)]; simp
    rw [hn]
    (refine ARun.intro Try.func82 rfl Try.call82 Try.ntmps82 Try.results82 ?_; simp only [List.length_cons, List.length_nil, List.length_map, Nat.reduceAdd, Nat.reduceSub, List.replicate_succ, List.replicate_zero, List.cons_append, List.nil_append])
    (have ww1 := he; refine wkO ?_; clear ww1; (repeat' first | exact True.intro | refine Lf.mk ?_ ?_); all_goals intro hP)
    (refine resX ?_; try exact True.intro)
  cases hk : keyB s with
  | true =>
    have hn : nameB s = false := by unfold nameB; rw [hk]; simp
    rw [hn]
    rw [hk] at u1
    (refine ARun.intro Try.func82 rfl Try.call82 Try.ntmps82 Try.results82 ?_; simp only [List.length_cons, List.length_nil, List.length_map, Nat.reduceAdd, Nat.reduceSub, List.replicate_succ, List.replicate_zero, List.cons_append, List.nil_append])
    (have ww1 := he; have cc1 := fun z1 => u1 z1; refine wkO ?_; clear ww1 cc1; (repeat' first | exact True.intro | refine Lf.mk ?_ ?_); all_goals intro hP)
    (refine resX ?_; try exact True.intro)
  | false =>
  have hn : nameB s = charsS (bytesZ s) 0 := by unfold nameB; rw [hk, decide_eq_true (show s.size ≤ 12 by omega), decide_eq_true (show 1 ≤ s.size by omega)]; simp
  rw [hn]
  rw [hk] at u1
  clear hn
  (refine ARun.intro Try.func82 rfl Try.call82 Try.ntmps82 Try.results82 ?_; simp only [List.length_cons, List.length_nil, List.length_map, Nat.reduceAdd, Nat.reduceSub, List.replicate_succ, List.replicate_zero, List.cons_append, List.nil_append])
  (have ww1 := he; have ww2 := hm; have cc1 := fun z1 => u1 z1; refine wkO ?_; clear ww1 ww2 cc1; (repeat' first | exact True.intro | refine Lf.mk ?_ ?_); all_goals intro hP)
  refine awp_loop_ind (σ := Nat) (fun k => s.size - k) (fun k => k ≤ s.size ∧ charsS (bytesZ s) 0 = charsS ((bytesZ s).drop k) k)
    (fun k => (aStr s :: .any :: .any :: .any :: .any :: .any :: .any :: .any :: .any :: .any :: .any :: .any :: .any :: .any :: .any :: .any :: .any :: .any :: .pv (.rs 1 (rowsZ (bytesZ s))) :: .i (bytesZ s).length :: .i k :: .any :: .any :: .any :: .any :: .any :: .any :: .any :: .any :: .any :: .any :: .any :: .any :: .any :: .any :: .any :: .any :: .any :: .any :: .any :: .any :: .any :: .any :: .any :: .any :: .any :: .any :: .any :: .any :: .any :: [])) (fun k => H0) 0 ⟨Nat.zero_le _, by simp⟩ (by (refine fgtX ?_; try exact True.intro)) ?_
  rintro k ⟨k1, k2⟩
  have hw : IntKind.i64.wrap ((k : Int) + 1) = ((k + 1 : Nat) : Int) := by rw [wrap_of (by omega) (by omega)]; omega
  by_cases hkk : k = s.size
  · subst hkk
    rw [List.drop_eq_nil_of_le (by rw [bytesZ_len]; exact Nat.le_refl _)] at k2
    rw [k2, show charsS [] s.size = true from rfl]
    clear k2
    (refine wkO ?_; (repeat' first | exact True.intro | refine Lf.mk ?_ ?_); all_goals intro hP)
    (refine resX ?_; try exact True.intro)
  · have hlt : k < s.size := by omega
    have hlz : k < (bytesZ s).length := by rw [bytesZ_len]; exact hlt
    have hd : (bytesZ s).drop k = (bytesZ s).getD k 0 :: (bytesZ s).drop (k + 1) := by
      rw [List.drop_eq_getElem_cons hlz, List.getD_eq_getElem?_getD, List.getElem?_eq_getElem hlz]; rfl
    have hg : (bytesZ s)[k]? = some ((bytesZ s).getD k 0) := by rw [List.getD_eq_getElem?_getD, List.getElem?_eq_getElem hlz]; rfl
    have hb := bytes_nn (getD_mem hlz)
    rw [hd] at k2
    simp only [charsS] at k2
    generalize (bytesZ s).getD k 0 = c at k2 hg hb
    (have ww1 := hw; have ww2 := hg; have ww3 := hlz; have ww4 := @bytesZ_len; refine wkO ?_; clear ww1 ww2 ww3 ww4; (repeat' first | exact True.intro | refine Lf.mk ?_ ?_); all_goals intro hP)
    all_goals first
      | (refine ⟨k + 1, by omega, ⟨by omega, ?_⟩, by (refine fgtX ?_; try exact True.intro)⟩; rw [k2, show charS k c = true from (charS_iff _ _).2 (by omega), Bool.true_and]; done)
      | ((refine resX ?_; try exact True.intro); rw [k2, show charS k c = false from Bool.eq_false_iff.2 (fun h => by have := (charS_iff _ _).1 h; omega), Bool.false_and]; done)
end Go.Proofs.Ytiifbdkedainnaa.Y

set_option maxHeartbeats 8000000
set_option maxRecDepth 100000
set_option linter.unusedVariables false
set_option linter.unusedSimpArgs false
set_option linter.unusedSectionVars false
namespace Go.Proofs.Ytiifbdkedainnaa.Y
open Go.Proofs.Ytiifbdkedainnaa.AL Go.Proofs Go
attribute [local irreducible] AWP AWL AWG AWR AWE AWX AWO AWSeq AWSG AWSR AWSO AWSE AWSF GoodP OGW OGR OGE OGX PGW PGR PGE Wk AWLoop AWPD AWLD

/-! The one tree that a name is checked in. -/
abbrev bE : ByteArray := ⟨#[]⟩
abbrev bA : ByteArray := ⟨#[97]⟩
abbrev nd (k : Int) (s : ByteArray) (kids : List (List PV)) : List PV := [.i k, .sc (.string s), .i 0, .i 0, .i 0, .rs 6 kids]
theorem emptyE : ((⟨#[]⟩ : ByteArray).toList == (⟨#[]⟩ : ByteArray).toList) = true := by simp
theorem has1_run (k : Int) (s : ByteArray) (kids : List (List PV)) (H0 : List AObj) :
    ARun Try.prog 68 [.ag (nd k s kids), .b true, .b false, .b false] H0 (.ret (.b true) H0) := by
  (refine ARun.intro Try.func68 rfl Try.call68 Try.ntmps68 Try.results68 ?_; simp only [List.length_cons, List.length_nil, List.length_map, Nat.reduceAdd, Nat.reduceSub, List.replicate_succ, List.replicate_zero, List.cons_append, List.nil_append])
  (refine wk ?_; (repeat' first | exact True.intro | refine Lf.mk ?_ ?_); all_goals intro hP)
  (refine resX ?_; try exact True.intro)
theorem has2_run (k : Int) (kids : List (List PV)) (H0 : List AObj) :
    ARun Try.prog 68 [.ag (nd k bE kids), .b false, .b false, .b false] H0 (.ret (.b true) H0) := by
  have he := emptyE
  (refine ARun.intro Try.func68 rfl Try.call68 Try.ntmps68 Try.results68 ?_; simp only [List.length_cons, List.length_nil, List.length_map, Nat.reduceAdd, Nat.reduceSub, List.replicate_succ, List.replicate_zero, List.cons_append, List.nil_append])
  (have ww1 := he; refine wk ?_; clear ww1; (repeat' first | exact True.intro | refine Lf.mk ?_ ?_); all_goals intro hP)
  (refine resX ?_; try exact True.intro)
theorem has3_run (k : Int) (kids : List (List PV)) (H0 : List AObj) :
    ARun Try.prog 68 [.ag (nd k bE kids), .b false, .b true, .b true] H0 (.ret (.b true) H0) := by
  have he := emptyE
  (refine ARun.intro Try.func68 rfl Try.call68 Try.ntmps68 Try.results68 ?_; simp only [List.length_cons, List.length_nil, List.length_map, Nat.reduceAdd, Nat.reduceSub, List.replicate_succ, List.replicate_zero, List.cons_append, List.nil_append])
  (have ww1 := he; refine wk ?_; clear ww1; (repeat' first | exact True.intro | refine Lf.mk ?_ ?_); all_goals intro hP)
  (refine resX ?_; try exact True.intro)
theorem nameA : nameB bA = true := by
  simp [nameB, charsS, bytesZ, charS, keyB, inB, wUnits, wEvents, wPolicies, wInputs, wOthers, eqB, ByteArray.toList_eq, ByteArray.size]
theorem isNamed_run (H0 : List AObj) : ARun Try.prog 85 [.ag (nd 14 bA [])] H0 (.ret (.b true) H0) := by
  have h1 := fun H0 => has1_run 14 bA [] H0
  have h2 := fun H0 => isName_run bA (by decide) H0
  rw [nameA] at h2
  (refine ARun.intro Try.func85 rfl Try.call85 Try.ntmps85 Try.results85 ?_; simp only [List.length_cons, List.length_nil, List.length_map, Nat.reduceAdd, Nat.reduceSub, List.replicate_succ, List.replicate_zero, List.cons_append, List.nil_append])
  (have cc1 := fun z1 => h1 z1; have cc2 := fun z1 => h2 z1; refine wk ?_; clear cc1 cc2; (repeat' first | exact True.intro | refine Lf.mk ?_ ?_); all_goals intro hP)
  (refine resX ?_; try exact True.intro)
theorem isNumber_run (H0 : List AObj) : ARun Try.prog 93 [.ag (nd 13 bE [])] H0 (.ret (.b true) H0) := by
  have h1 := fun H0 => has3_run 13 [] H0
  (refine ARun.intro Try.func93 rfl Try.call93 Try.ntmps93 Try.results93 ?_; simp only [List.length_cons, List.length_nil, List.length_map, Nat.reduceAdd, Nat.reduceSub, List.replicate_succ, List.replicate_zero, List.cons_append, List.nil_append])
  (have cc1 := fun z1 => h1 z1; refine wk ?_; clear cc1; (repeat' first | exact True.intro | refine Lf.mk ?_ ?_); all_goals intro hP)
  (refine resX ?_; try exact True.intro)
theorem isPlain_run (H0 : List AObj) : ARun Try.prog 83 [.ag (nd 13 bE [])] H0 (.ret (.b true) H0) := by
  have h1 := fun H0 => isNumber_run H0
  (refine ARun.intro Try.func83 rfl Try.call83 Try.ntmps83 Try.results83 ?_; simp only [List.length_cons, List.length_nil, List.length_map, Nat.reduceAdd, Nat.reduceSub, List.replicate_succ, List.replicate_zero, List.cons_append, List.nil_append])
  (have cc1 := fun z1 => h1 z1; refine wk ?_; clear cc1; (repeat' first | exact True.intro | refine Lf.mk ?_ ?_); all_goals intro hP)
  (refine resX ?_; try exact True.intro)
theorem ncount0_run (k : Int) (s : ByteArray) (m : Int) (H0 : List AObj) : ARun Try.prog 69 [.ag (nd k s []), .i m] H0 (.ret (.i 1) H0) := by
  (refine ARun.intro Try.func69 rfl Try.call69 Try.ntmps69 Try.results69 ?_; simp only [List.length_cons, List.length_nil, List.length_map, Nat.reduceAdd, Nat.reduceSub, List.replicate_succ, List.replicate_zero, List.cons_append, List.nil_append])
  (refine wk ?_; (repeat' first | exact True.intro | refine Lf.mk ?_ ?_); all_goals intro hP)
  refine awp_loop 1 ?_
  (refine wk ?_; (repeat' first | exact True.intro | refine Lf.mk ?_ ?_); all_goals intro hP)
  (refine resX ?_; try exact True.intro)
theorem ncount2_run (s : ByteArray) (H0 : List AObj) : ARun Try.prog 69 [.ag (nd 4 s [nd 14 bA [], nd 13 bE []]), .i 2499] H0 (.ret (.i 3) H0) := by
  have h1 := fun m H0 => ncount0_run 14 bA m H0
  have h2 := fun m H0 => ncount0_run 13 bE m H0
  (refine ARun.intro Try.func69 rfl Try.call69 Try.ntmps69 Try.results69 ?_; simp only [List.length_cons, List.length_nil, List.length_map, Nat.reduceAdd, Nat.reduceSub, List.replicate_succ, List.replicate_zero, List.cons_append, List.nil_append])
  (refine wk ?_; (repeat' first | exact True.intro | refine Lf.mk ?_ ?_); all_goals intro hP)
  refine awp_loop 3 ?_
  (have cc1 := fun z1 z2 => h1 z1 z2; have cc2 := fun z1 z2 => h2 z1 z2; refine wk ?_; clear cc1 cc2; (repeat' first | exact True.intro | refine Lf.mk ?_ ?_); all_goals intro hP)
  (refine resX ?_; try exact True.intro)
theorem ncount1_run (s : ByteArray) (H0 : List AObj) : ARun Try.prog 69 [.ag (nd 1 bE [nd 4 s [nd 14 bA [], nd 13 bE []]]), .i 2500] H0 (.ret (.i 4) H0) := by
  have h1 := fun H0 => ncount2_run s H0
  (refine ARun.intro Try.func69 rfl Try.call69 Try.ntmps69 Try.results69 ?_; simp only [List.length_cons, List.length_nil, List.length_map, Nat.reduceAdd, Nat.reduceSub, List.replicate_succ, List.replicate_zero, List.cons_append, List.nil_append])
  (refine wk ?_; (repeat' first | exact True.intro | refine Lf.mk ?_ ?_); all_goals intro hP)
  refine awp_loop 2 ?_
  (have cc1 := fun z1 => h1 z1; refine wk ?_; clear cc1; (repeat' first | exact True.intro | refine Lf.mk ?_ ?_); all_goals intro hP)
  (refine resX ?_; try exact True.intro)
end Go.Proofs.Ytiifbdkedainnaa.Y

set_option maxHeartbeats 8000000
set_option maxRecDepth 100000
set_option linter.unusedVariables false
set_option linter.unusedSimpArgs false
set_option linter.unusedSectionVars false
namespace Go.Proofs.Ytiifbdkedainnaa.Y
open Go.Proofs.Ytiifbdkedainnaa.AL Go.Proofs Go
attribute [local irreducible] AWP AWL AWG AWR AWE AWX AWO AWSeq AWSG AWSR AWSO AWSE AWSF GoodP OGW OGR OGE OGX PGW PGR PGE Wk AWLoop AWPD AWLD
theorem dr71_9_X20h : Drawn Try.prog 9 (regOps 9 ((Try.f71.body).getD .skip)) [5, 23, 29] [] [.win [0], .win [0], .win [0], .win [0], .win [0], .eff 0, .win [1], .win [1], .win [1], .win [1], .win [1], .win [1], .win [1], .win [1], .win [1], .win [1], .win [1], .win [1], .win [1, 2], .win [1, 2], .win [1, 2], .win [1], .win [1], .eff 1, .win [2], .win [2], .win [2], .win [2], .win [2], .eff 2, .win [3], .win [3]] 3 [] := ⟨rfl, by as_aux_lemma => kernel_rfl⟩

theorem nall1_run (F : FuncId) (k : Int) (s : ByteArray) (kids : List (List PV)) (b : Bool) (h : ∀ H0, ARun Try.prog F [.ag (nd k s kids)] H0 (.ret (.b b) H0)) (id : Nat) (H0 : List AObj)
    (hc : H0[id]? = some (.cells 99 [.fn (.func F) [] []])) :
    ARun Try.prog 81 [.ag (nd k s kids), .p id 0] H0 (.ret (.b (!b)) H0) := by
  have hc2 : ∀ X, (H0 ++ [X])[id]? = some (.cells 99 [.fn (.func F) [] []]) := by
    intro X
    rw [List.getElem?_append_left (List.getElem?_eq_some_iff.1 hc).1, hc]
  (refine ARun.intro Try.func81 rfl Try.call81 Try.ntmps81 Try.results81 ?_; simp only [List.length_cons, List.length_nil, List.length_map, Nat.reduceAdd, Nat.reduceSub, List.replicate_succ, List.replicate_zero, List.cons_append, List.nil_append])
  (have ww1 := hc2; have ww2 := hc; have cc1 := fun z1 => h z1; refine wkS ?_; clear ww1 ww2 cc1; (repeat' first | exact True.intro | refine Lf.mk ?_ ?_); all_goals intro hP)
  (refine resX ?_; try exact True.intro)
theorem nindex_run (k : Int) (s : ByteArray) (kids : List (List PV)) (b : Bool) (id : Nat) (H0 : List AObj)
    (h : ARun Try.prog 81 [.ag (nd k s kids), .p id 0] H0 (.ret (.b b) H0)) :
    ARun Try.prog 91 [.rs 6 [nd k s kids], .fn (.func 81) [] [.p id 0]] H0 (.ret (.i (if b then 0 else -1)) H0) := by
  cases b with
  | true =>
    (refine ARun.intro Try.func91 rfl Try.call91 Try.ntmps91 Try.results91 ?_; simp only [List.length_cons, List.length_nil, List.length_map, Nat.reduceAdd, Nat.reduceSub, List.replicate_succ, List.replicate_zero, List.cons_append, List.nil_append])
    (refine wk ?_; (repeat' first | exact True.intro | refine Lf.mk ?_ ?_); all_goals intro hP)
    refine awp_loop 1 ?_
    (have cc1 := h; refine wk ?_; clear cc1; (repeat' first | exact True.intro | refine Lf.mk ?_ ?_); all_goals intro hP)
    (refine resX ?_; try exact True.intro)
  | false =>
    (refine ARun.intro Try.func91 rfl Try.call91 Try.ntmps91 Try.results91 ?_; simp only [List.length_cons, List.length_nil, List.length_map, Nat.reduceAdd, Nat.reduceSub, List.replicate_succ, List.replicate_zero, List.cons_append, List.nil_append])
    (refine wk ?_; (repeat' first | exact True.intro | refine Lf.mk ?_ ?_); all_goals intro hP)
    refine awp_loop 2 ?_
    (have cc1 := h; refine wk ?_; clear cc1; (repeat' first | exact True.intro | refine Lf.mk ?_ ?_); all_goals intro hP)
    (refine resX ?_; try exact True.intro)
theorem ncontains_run (k : Int) (s : ByteArray) (kids : List (List PV)) (b : Bool) (id : Nat) (H0 : List AObj)
    (h : ARun Try.prog 81 [.ag (nd k s kids), .p id 0] H0 (.ret (.b b) H0)) :
    ARun Try.prog 80 [.rs 6 [nd k s kids], .fn (.func 81) [] [.p id 0]] H0 (.ret (.b b) H0) := by
  have h1 := nindex_run k s kids b id H0 h
  cases b with
  | true =>
    simp only [if_true] at h1
    (refine ARun.intro Try.func80 rfl Try.call80 Try.ntmps80 Try.results80 ?_; simp only [List.length_cons, List.length_nil, List.length_map, Nat.reduceAdd, Nat.reduceSub, List.replicate_succ, List.replicate_zero, List.cons_append, List.nil_append])
    (have cc1 := h1; refine wk ?_; clear cc1; (repeat' first | exact True.intro | refine Lf.mk ?_ ?_); all_goals intro hP)
    (refine resX ?_; try exact True.intro)
  | false =>
    simp only [if_false, Bool.false_eq_true] at h1
    (refine ARun.intro Try.func80 rfl Try.call80 Try.ntmps80 Try.results80 ?_; simp only [List.length_cons, List.length_nil, List.length_map, Nat.reduceAdd, Nat.reduceSub, List.replicate_succ, List.replicate_zero, List.cons_append, List.nil_append])
    (have cc1 := h1; refine wk ?_; clear cc1; (repeat' first | exact True.intro | refine Lf.mk ?_ ?_); all_goals intro hP)
    (refine resX ?_; try exact True.intro)
theorem nall_run (F : FuncId) (k : Int) (s : ByteArray) (kids : List (List PV)) (b : Bool) (h : ∀ H0, ARun Try.prog F [.ag (nd k s kids)] H0 (.ret (.b b) H0)) (H0 : List AObj) :
    ARun Try.prog 70 [.rs 6 [nd k s kids], .fn (.func F) [] []] H0 (.ret (.b b) H0) := by
  have h1 := ncontains_run k s kids (!b) H0.length _ (nall1_run F k s kids b h H0.length (H0 ++ [.cells 99 [.fn (.func F) [] []]]) (by simp))
  cases b with
  | true =>
    simp only [Bool.not_true] at h1
    (refine ARun.intro Try.func70 rfl Try.call70 Try.ntmps70 Try.results70 ?_; simp only [List.length_cons, List.length_nil, List.length_map, Nat.reduceAdd, Nat.reduceSub, List.replicate_succ, List.replicate_zero, List.cons_append, List.nil_append])
    (have cc1 := h1; refine wk ?_; clear cc1; (repeat' first | exact True.intro | refine Lf.mk ?_ ?_); all_goals intro hP)
    (refine resX ?_; try exact True.intro)
  | false =>
    simp only [Bool.not_false] at h1
    (refine ARun.intro Try.func70 rfl Try.call70 Try.ntmps70 Try.results70 ?_; simp only [List.length_cons, List.length_nil, List.length_map, Nat.reduceAdd, Nat.reduceSub, List.replicate_succ, List.replicate_zero, List.cons_append, List.nil_append])
    (have cc1 := h1; refine wk ?_; clear cc1; (repeat' first | exact True.intro | refine Lf.mk ?_ ?_); all_goals intro hP)
    (refine resX ?_; try exact True.intro)
theorem isItem_run (s : ByteArray) (hs : s.size ≤ 2000000) (H0 : List AObj) :
    ARun Try.prog 71 [.ag (nd 4 s [nd 14 bA [], nd 13 bE []])] H0 (.ret (.b (nameB s)) H0) := by
  have q01 : ((0 : Int) ≤ 1) = True := by simp
  have q12 : ((1 : Int) ≤ 2) = True := by simp
  have q02 : ((0 : Int) ≤ 2) = True := by simp
  have q22 : ((2 : Int) ≤ 2) = True := by simp
  have qt1 : Int.toNat 1 = 1 := rfl
  have h1 := fun H0 => has1_run 4 s [nd 14 bA [], nd 13 bE []] H0
  have h2 := fun H0 => isName_run s hs H0
  have h3 := fun H0 => nall_run _ 14 bA [] true (fun H0 => isNamed_run H0) H0
  have h4 := fun H0 => nall_run _ 13 bE [] true (fun H0 => isPlain_run H0) H0
  cases hnm : nameB s with
  | true =>
    rw [hnm] at h2
    (refine ARun.intro Try.func71 rfl Try.call71 Try.ntmps71 Try.results71 ?_; simp only [List.length_cons, List.length_nil, List.length_map, Nat.reduceAdd, Nat.reduceSub, List.replicate_succ, List.replicate_zero, List.cons_append, List.nil_append])
    (have rr1 := dr71_9_X20h; have cc1 := fun z1 => h1 z1; have cc2 := fun z1 => h2 z1; have cc3 := fun z1 => h3 z1; have cc4 := fun z1 => h4 z1; refine wkS ?_; clear rr1 cc1 cc2 cc3 cc4; (repeat' first | exact True.intro | refine Lf.mk ?_ ?_); all_goals intro hP)
    (refine resX ?_; try exact True.intro)
  | false =>
    rw [hnm] at h2
    (refine ARun.intro Try.func71 rfl Try.call71 Try.ntmps71 Try.results71 ?_; simp only [List.length_cons, List.length_nil, List.length_map, Nat.reduceAdd, Nat.reduceSub, List.replicate_succ, List.replicate_zero, List.cons_append, List.nil_append])
    (have rr1 := dr71_9_X20h; have cc1 := fun z1 => h1 z1; have cc2 := fun z1 => h2 z1; have cc3 := fun z1 => h3 z1; have cc4 := fun z1 => h4 z1; refine wkS ?_; clear rr1 cc1 cc2 cc3 cc4; (repeat' first | exact True.intro | refine Lf.mk ?_ ?_); all_goals intro hP)
    (refine resX ?_; try exact True.intro)
theorem PValid_run (s : ByteArray) (hs : s.size ≤ 2000000) (H0 : List AObj) :
    ARun Try.prog 60 [.ag (nd 1 bE [nd 4 s [nd 14 bA [], nd 13 bE []]])] H0 (.ret (.b (nameB s)) H0) := by
  have h1 := fun H0 => has2_run 1 [nd 4 s [nd 14 bA [], nd 13 bE []]] H0
  have h2 := fun H0 => ncount1_run s H0
  have h3 := fun H0 => nall_run _ 4 s [nd 14 bA [], nd 13 bE []] (nameB s) (fun H0 => isItem_run s hs H0) H0
  (refine ARun.intro Try.func60 rfl Try.call60 Try.ntmps60 Try.results60 ?_; simp only [List.length_cons, List.length_nil, List.length_map, Nat.reduceAdd, Nat.reduceSub, List.replicate_succ, List.replicate_zero, List.cons_append, List.nil_append])
  (have cc1 := fun z1 => h1 z1; have cc2 := fun z1 => h2 z1; have cc3 := fun z1 => h3 z1; refine wk ?_; clear cc1 cc2 cc3; (repeat' first | exact True.intro | refine Lf.mk ?_ ?_); all_goals intro hP)
  (refine resX ?_; try exact True.intro)
theorem nameC_run (s : ByteArray) (hs : s.size ≤ 2000000) (H0 : List AObj) :
    ARun Try.prog 41 [aStr s] H0 (.ret (.b (nameB s)) H0) := by
  have h1 := PValid_run s hs []
  (refine ARun.intro Try.func41 rfl Try.call41 Try.ntmps41 Try.results41 ?_; simp only [List.length_cons, List.length_nil, List.length_map, Nat.reduceAdd, Nat.reduceSub, List.replicate_succ, List.replicate_zero, List.cons_append, List.nil_append])
  (have dd1 := h1; refine wk ?_; clear dd1; (repeat' first | exact True.intro | refine Lf.mk ?_ ?_); all_goals intro hP)
  (refine resX ?_; try exact True.intro)
end Go.Proofs.Ytiifbdkedainnaa.Y

/- Plain laws: both ways to say which programs are valid. -/
set_option linter.unusedVariables false
namespace Go.Proofs.Ytiifbdkedainnaa.AL
theorem eqB_eq (a b : ByteArray) : eqB a b = true ↔ a = b := by
  unfold eqB
  rw [beq_iff_eq, ByteArray.toList_eq, ByteArray.toList_eq]
  constructor
  · intro h
    obtain ⟨x⟩ := a
    obtain ⟨y⟩ := b
    have : x = y := by cases x; cases y; simpa using h
    rw [this]
  · rintro rfl; rfl
def varC (v : Vr) : Bool := nameB v.name && decide (0 ≤ v.low ∧ v.low ≤ v.init ∧ v.init ≤ v.high ∧ v.high ≤ 1000000000)
def seenM (l : List ByteArray) : List (ByteArray × Value) := l.map fun s => (s, .bool true)
theorem findS_seen : ∀ (l : List ByteArray) (s : ByteArray) (i : Nat), (findS (seenM l) s i).map (·.2) = if inB l s = true then some (.bool true) else none
  | [], s, i => by simp [seenM, findS, inB]
  | w :: l, s, i => by
    have ih := findS_seen l s (i + 1)
    unfold seenM at ih ⊢
    rw [List.map_cons, findS]
    by_cases h : s = w
    · have : eqB w s = true := (eqB_eq w s).2 h.symm
      rw [if_pos h]
      simp [inB, this]
    · have : eqB w s = false := by rw [Bool.eq_false_iff]; intro h2; exact h ((eqB_eq w s).1 h2).symm
      rw [if_neg h, ih]
      simp [inB, this]
theorem lookS_seen (l : List ByteArray) (s : ByteArray) (z : Value) : (lookS (seenM l) s).getD z = if inB l s = true then .bool true else z := by
  unfold lookS
  rw [findS_seen]
  split <;> rfl
theorem putS_seen (l : List ByteArray) (s : ByteArray) (h : inB l s = false) : putS (seenM l) s (.bool true) = seenM (l ++ [s]) := by
  have := findS_seen l s 0
  rw [h] at this
  simp only [Bool.false_eq_true, if_false, Option.map_eq_none_iff] at this
  unfold putS
  rw [this]
  simp [seenM]
/-- The loop over the variables. -/
def onceC : List Vr → List ByteArray → Bool
  | [], _ => true
  | v :: r, seen => !(inB seen v.name) && (varC v && onceC r (seen ++ [v.name]))
theorem onceC_eq : ∀ (l : List Vr) (seen : List ByteArray), onceC l seen = (l.all varC && onceB l seen)
  | [], _ => rfl
  | v :: r, seen => by
    rw [onceC, onceC_eq r, onceB, List.all_cons]
    cases inB seen v.name <;> cases varC v <;> cases r.all varC <;> simp
theorem ksL_unit : ∀ {l : List Vr} {us : List Un}, ksL l = some us → ∀ v ∈ l, 0 ≤ v.unit ∧ v.unit ≤ 4
  | [], _, _, v, hv => by cases hv
  | x :: l, us, h, v, hv => by
    rw [ksL] at h
    cases hx : ofK x.unit with
    | none => rw [hx] at h; cases h
    | some u =>
      rw [hx] at h
      cases hl : ksL l with
      | none => rw [hl] at h; cases h
      | some us' =>
        rcases List.mem_cons.1 hv with rfl | hv
        · unfold ofK at hx
          repeat' (split at hx)
          all_goals first | omega | cases hx
        · exact ksL_unit hl v hv
theorem checkS_ok (p : Prg) : ((checkS p).1 < 0 ∧ (checkS p).2 = 0) ↔ checkS p = (-1, 0) := by
  constructor
  · rintro ⟨h1, h2⟩
    unfold checkS at *
    split at h1
    · simp at h1
    · split at h1
      · simp at h1
      · rename_i hv h12
        simp only [hv, h12, if_false]
        unfold evS at *
        repeat' (split at h1)
        all_goals first | (simp at h1; done) | (simp_all)
  · intro h; rw [h]; decide
/-- What control.Valid says. -/
def ctlB (p : Prg) : Bool :=
  decide (1 ≤ p.vars.length) && (decide (p.vars.length ≤ 12) && (nameB p.name && (onceC p.vars [] && (decide ((checkS p).1 < 0) && (decide ((checkS p).2 = 0) && (usesB p.vars p.window 1 && (decide (p.pace = -1) || usesB p.vars p.pace 4)))))))
theorem ctlB_eq (p : Prg) : ctlB p = validB p := by
  have hc := checkS_ok p
  unfold ctlB validB
  rw [onceC_eq, Bool.eq_iff_iff]
  simp only [Bool.and_eq_true, decide_eq_true_eq]
  have hvar : checkS p = (-1, 0) → (p.vars.all varC = true ↔ p.vars.all varB = true) := by
    intro h
    cases hk : ksL p.vars with
    | none => unfold checkS at h; rw [hk] at h; simp at h
    | some us =>
      have hu := ksL_unit hk
      rw [List.all_eq_true, List.all_eq_true]
      constructor
      · intro h v hv
        have := hu v hv
        have := h v hv
        unfold varC at this
        unfold varB
        simp only [Bool.and_eq_true, decide_eq_true_eq] at this ⊢
        exact ⟨this.1, by omega⟩
      · intro h v hv
        have := h v hv
        unfold varB at this
        unfold varC
        simp only [Bool.and_eq_true, decide_eq_true_eq] at this ⊢
        exact ⟨this.1, by omega⟩
  constructor
  · rintro ⟨h1, h2, h3, ⟨h4, h5⟩, h6, h7, h8⟩
    have h9 := hc.1 ⟨h6, h7⟩
    exact ⟨h3, h1, h2, (hvar h9).1 h4, h5, h9, h8⟩
  · rintro ⟨h3, h1, h2, h4, h5, h9, h8⟩
    have := hc.2 h9
    exact ⟨h1, h2, h3, ⟨(hvar h9).2 h4, h5⟩, this.1, this.2, h8⟩
/-- The reference's loop over the variables. -/
def oneR (all : List Vr) : List Vr → Nat → Bool
  | [], _ => true
  | v :: r, k => varB v && (decide (findV all v.name 0 = k) && oneR all r (k + 1))
theorem findV_app (l : List Vr) (s : ByteArray) : ∀ (pre : List Vr) (i : Int), (inB (pre.map (·.name)) s = false → findV (pre ++ l) s i = findV l s (i + pre.length)) ∧ (inB (pre.map (·.name)) s = true → findV (pre ++ l) s i < i + pre.length)
  | [], i => by simp [inB]
  | v :: pre, i => by
    obtain ⟨h1, h2⟩ := findV_app l s pre (i + 1)
    have e : inB ((v :: pre).map (·.name)) s = (eqB v.name s || inB (pre.map (·.name)) s) := by simp [inB]
    rw [e, List.cons_append, findV, List.length_cons]
    cases hq : eqB v.name s with
    | true => simp; omega
    | false =>
      simp only [Bool.false_or, Bool.false_eq_true, if_false]
      refine ⟨fun h => ?_, fun h => ?_⟩
      · rw [h1 h]; congr 1; push_cast; omega
      · have := h2 h; push_cast; omega
theorem oneR_eq : ∀ (l pre : List Vr), oneR (pre ++ l) l pre.length = (l.all varB && onceB l (pre.map (·.name)))
  | [], pre => rfl
  | v :: l, pre => by
    have ih := oneR_eq l (pre ++ [v])
    rw [List.append_assoc, List.singleton_append, List.length_append, List.map_append] at ih
    rw [oneR, onceB, List.all_cons]
    simp only [List.length_cons, List.length_nil, List.map_cons, List.map_nil, Nat.zero_add] at ih
    rw [ih]
    obtain ⟨h1, h2⟩ := findV_app (v :: l) v.name pre 0
    cases hq : inB (pre.map (·.name)) v.name with
    | true =>
      have := h2 hq
      rw [decide_eq_false (by omega)]
      simp
    | false =>
      rw [h1 hq, findV, if_pos ((eqB_eq _ _).2 rfl), decide_eq_true (by omega)]
      cases varB v <;> cases l.all varB <;> simp
theorem oneR_all (l : List Vr) : oneR l l 0 = (l.all varB && onceB l []) := oneR_eq l []
end Go.Proofs.Ytiifbdkedainnaa.AL

set_option maxHeartbeats 8000000
set_option maxRecDepth 100000
set_option linter.unusedVariables false
set_option linter.unusedSimpArgs false
set_option linter.unusedSectionVars false
namespace Go.Proofs.Ytiifbdkedainnaa.Y
open Go.Proofs.Ytiifbdkedainnaa.AL Go.Proofs Go
attribute [local irreducible] AWP AWL AWG AWR AWE AWX AWO AWSeq AWSG AWSR AWSO AWSE AWSF GoodP OGW OGR OGE OGX PGW PGR PGE Wk AWLoop AWPD AWLD

theorem hasUnit_run (l : List Vr) (k u : Int) (hl : l.length ≤ 2000000) (H0 : List AObj) :
    ARun Try.prog 43 [.rs 5 (l.map encV), .i k, .i u] H0 (.ret (.b (usesB l k u)) H0) := by
  by_cases hk : 0 ≤ k ∧ k < l.length
  · have hlt : k.toNat < l.length := by omega
    have hv := getEV hlt
    have hl' : (l.map encV)[k.toNat]? = some (cV (l.getD k.toNat dV)) := by rw [List.getElem?_map, hv]; rfl
    (refine ARun.intro Try.func43 rfl Try.call43 Try.ntmps43 Try.results43 ?_; simp only [List.length_cons, List.length_nil, List.length_map, Nat.reduceAdd, Nat.reduceSub, List.replicate_succ, List.replicate_zero, List.cons_append, List.nil_append])
    (have ww1 := hl'; refine wkO ?_; clear ww1; (repeat' first | exact True.intro | refine Lf.mk ?_ ?_); all_goals intro hP)
    all_goals ((refine resX ?_; try exact True.intro))
    all_goals (unfold usesB; rw [hv]; simp [hk])
  · (refine ARun.intro Try.func43 rfl Try.call43 Try.ntmps43 Try.results43 ?_; simp only [List.length_cons, List.length_nil, List.length_map, Nat.reduceAdd, Nat.reduceSub, List.replicate_succ, List.replicate_zero, List.cons_append, List.nil_append])
    (refine wkO ?_; (repeat' first | exact True.intro | refine Lf.mk ?_ ?_); all_goals intro hP)
    all_goals ((refine resX ?_; try exact True.intro))
    all_goals (unfold usesB; rw [decide_eq_false hk, Bool.false_and])
theorem zeroBool : aZero1 Try.prog 4 = some (.bool false) := by kernel_rfl
end Go.Proofs.Ytiifbdkedainnaa.Y

set_option maxHeartbeats 8000000
set_option maxRecDepth 100000
set_option linter.unusedVariables false
set_option linter.unusedSimpArgs false
set_option linter.unusedSectionVars false
namespace Go.Proofs.Ytiifbdkedainnaa.Y
open Go.Proofs.Ytiifbdkedainnaa.AL Go.Proofs Go
attribute [local irreducible] AWP AWL AWG AWR AWE AWX AWO AWSeq AWSG AWSR AWSO AWSE AWSF GoodP OGW OGR OGE OGX PGW PGR PGE Wk AWLoop AWPD AWLD
theorem dr18_6_X20k : Drawn Try.prog 6 (regOps 6 ((Try.f18.body).getD .skip)) [5, 16] [] [.win [0], .win [0], .win [0], .win [0], .win [0], .eff 0, .win [1], .win [1], .win [1], .win [1], .win [1], .win [1], .win [1], .win [1], .win [1], .win [1], .eff 1, .win [1, 2], .win [2], .win [2]] 2 [] := ⟨rfl, by as_aux_lemma => kernel_rfl⟩

theorem RValid_run (p : Prg) (hf : fine1 p) (hz : p.name.size ≤ 2000000) (hzv : ∀ v ∈ p.vars, v.name.size ≤ 2000000) (H0 : List AObj) :
    ARun Try.prog 18 [.ag (cP p)] H0 (.ret (.b (validB p)) H0) := by
  have n1 := fun H0 => Name_run p.name hz H0
  have hl : p.vars.length ≤ 1100000 := by have := hf; unfold fine1 at this; omega
  by_cases hlen : 1 ≤ p.vars.length ∧ p.vars.length ≤ 12
  · obtain ⟨len1, len2⟩ := hlen
    cases hnm : nameB p.name with
    | false =>
      rw [hnm] at n1
      have hr : validB p = false := by unfold validB; rw [hnm]; simp
      rw [hr]
      clear hr
      (refine ARun.intro Try.func18 rfl Try.call18 Try.ntmps18 Try.results18 ?_; simp only [List.length_cons, List.length_nil, List.length_map, Nat.reduceAdd, Nat.reduceSub, List.replicate_succ, List.replicate_zero, List.cons_append, List.nil_append])
      (have rr1 := dr18_6_X20k; have cc1 := fun z1 => n1 z1; refine wkO ?_; clear rr1 cc1; (repeat' first | exact True.intro | refine Lf.mk ?_ ?_); all_goals intro hP)
      (refine resX ?_; try exact True.intro)
    | true =>
      rw [hnm] at n1
      have hr : validB p = (oneR p.vars p.vars 0 && (decide (checkS p = (-1, 0)) && (usesB p.vars p.window 1 && (decide (p.pace = -1) || usesB p.vars p.pace 4)))) := by
        unfold validB; rw [oneR_all, hnm, decide_eq_true len1, decide_eq_true len2]; simp [Bool.and_assoc]
      rw [hr]
      clear hr
      have c1 := fun H0 => RCheck_run p hf H0
      have c2 := fun H0 => RUses_run p.vars p.window 1 (by omega) H0
      have c3 := fun H0 => RUses_run p.vars p.pace 4 (by omega) H0
      (refine ARun.intro Try.func18 rfl Try.call18 Try.ntmps18 Try.results18 ?_; simp only [List.length_cons, List.length_nil, List.length_map, Nat.reduceAdd, Nat.reduceSub, List.replicate_succ, List.replicate_zero, List.cons_append, List.nil_append])
      (have rr1 := dr18_6_X20k; have cc1 := fun z1 => n1 z1; refine wkO ?_; clear rr1 cc1; (repeat' first | exact True.intro | refine Lf.mk ?_ ?_); all_goals intro hP)
      refine awp_loop_ind (σ := Nat) (fun k => p.vars.length - k) (fun k => k ≤ p.vars.length ∧ oneR p.vars p.vars 0 = oneR p.vars (p.vars.drop k) k)
        (fun k => (.any :: .p H0.length 0 :: .any :: .i k :: .any :: .any :: .any :: .any :: .any :: .any :: .any :: .any :: .any :: .any :: .any :: .any :: .any :: .any :: .any :: .any :: .any :: .any :: .any :: .any :: .any :: .any :: .any :: .any :: .any :: .any :: .any :: .any :: .any :: .any :: .any :: .any :: .any :: .any :: .any :: .any :: .any :: .any :: .any :: .any :: .any :: .any :: .any :: .any :: .any :: .any :: .any :: .any :: .any :: .any :: .any :: .any :: .any :: .any :: .any :: .any :: .any :: .any :: .any :: .any :: .any :: .any :: .any :: .any :: .any :: .any :: .any :: .any :: .any :: .any :: .any :: .any :: .any :: .any :: .any :: []))
        (fun k => H0 ++ [.cells 26 ((cP p).map AV.pv)]) 0 ⟨Nat.zero_le _, by simp⟩ (by (refine fgtX ?_; try exact True.intro)) ?_
      rintro k ⟨k1, k2⟩
      have hw : IntKind.i64.wrap ((k : Int) + 1) = ((k + 1 : Nat) : Int) := by rw [wrap_of (by omega) (by omega)]; omega
      cases hd : p.vars.drop k with
      | nil =>
        have hk : p.vars.length ≤ k := List.drop_eq_nil_iff.1 hd
        rw [hd] at k2
        rw [k2, show oneR p.vars [] k = true from rfl, Bool.true_and]
        clear k2
        have hans : ∀ x, ansC x = .tup [.i x.1, .i x.2] := fun x => rfl
        have hdec : decide (checkS p = (-1, 0)) = (decide ((checkS p).1 = -1) && decide ((checkS p).2 = 0)) := by
          rw [Bool.eq_iff_iff]; simp [Prod.ext_iff]
        rw [hdec]
        generalize checkS p = c at c1 ⊢
        cases hu1 : usesB p.vars p.window 1 <;> cases hu2 : usesB p.vars p.pace 4
        all_goals
          rw [hu1] at c2
          rw [hu2] at c3
          (have rr1 := dr18_6_X20k; have ww1 := hans; have cc1 := fun z1 => c1 z1; have cc2 := fun z1 => c2 z1; have cc3 := fun z1 => c3 z1; refine wkO ?_; clear rr1 ww1 cc1 cc2 cc3; (repeat' first | exact True.intro | refine Lf.mk ?_ ?_); all_goals intro hP)
          all_goals clear c1 c2 c3 n1
          all_goals ((refine resX ?_; try exact True.intro))
          all_goals (refine congrArg (fun b => AV.pv (PV.sc (Value.bool b))) ?_; rw [Bool.eq_iff_iff]; simp <;> omega)
      | cons v r =>
        have hk : k < p.vars.length := by have := congrArg List.length hd; simp at this; omega
        rw [hd] at k2
        obtain ⟨hvk, _, hr, hm⟩ := drop_cons hd
        have hl' : (p.vars.map encV)[k]? = some (cV v) := by rw [List.getElem?_map, hvk]; rfl
        have n2 := fun H0 => RVar_run v (hzv v hm) H0
        have n3 := fun H0 => RFind_run p.vars v.name (by omega) H0
        rw [oneR] at k2
        simp only [encV_eq] at n2
        cases hn2 : varB v with
        | false =>
          rw [hn2] at n2
          have hff : oneR p.vars p.vars 0 = false := by rw [k2, hn2]; simp
          rw [hff, Bool.false_and]
          (have rr1 := dr18_6_X20k; have ww1 := hl'; have cc1 := fun z1 => n2 z1; have cc2 := fun z1 => n3 z1; refine wkO ?_; clear rr1 ww1 cc1 cc2; (repeat' first | exact True.intro | refine Lf.mk ?_ ?_); all_goals intro hP)
          (refine resX ?_; try exact True.intro)
        | true =>
          rw [hn2] at n2
          generalize hfv : findV p.vars v.name 0 = f at k2 n3
          by_cases hfk : f = k
          · subst hfk
            (have rr1 := dr18_6_X20k; have ww1 := hl'; have ww2 := hw; have cc1 := fun z1 => n2 z1; have cc2 := fun z1 => n3 z1; refine wkO ?_; clear rr1 ww1 ww2 cc1 cc2; (repeat' first | exact True.intro | refine Lf.mk ?_ ?_); all_goals intro hP)
            all_goals (refine ⟨k + 1, by omega, ⟨by omega, k2.trans (by rw [hn2, decide_eq_true rfl, hr, Bool.true_and, Bool.true_and])⟩, by (refine fgtX ?_; try exact True.intro)⟩)
          · have hff : oneR p.vars p.vars 0 = false := by rw [k2, decide_eq_false hfk]; simp
            rw [hff, Bool.false_and]
            (have rr1 := dr18_6_X20k; have ww1 := hl'; have ww2 := hw; have cc1 := fun z1 => n2 z1; have cc2 := fun z1 => n3 z1; refine wkO ?_; clear rr1 ww1 ww2 cc1 cc2; (repeat' first | exact True.intro | refine Lf.mk ?_ ?_); all_goals intro hP)
            all_goals ((refine resX ?_; try exact True.intro))
  · have hr : validB p = false := by
      unfold validB
      by_cases h : 1 ≤ p.vars.length
      · rw [decide_eq_false (show ¬ p.vars.length ≤ 12 by omega)]; simp
      · rw [decide_eq_false h]; simp
    rw [hr]
    clear hr
    cases hnm : nameB p.name
    all_goals
      rw [hnm] at n1
      (refine ARun.intro Try.func18 rfl Try.call18 Try.ntmps18 Try.results18 ?_; simp only [List.length_cons, List.length_nil, List.length_map, Nat.reduceAdd, Nat.reduceSub, List.replicate_succ, List.replicate_zero, List.cons_append, List.nil_append])
      (have rr1 := dr18_6_X20k; have cc1 := fun z1 => n1 z1; refine wkO ?_; clear rr1 cc1; (repeat' first | exact True.intro | refine Lf.mk ?_ ?_); all_goals intro hP)
      all_goals ((refine resX ?_; try exact True.intro))
end Go.Proofs.Ytiifbdkedainnaa.Y

/- Plain laws: which programs are small (the other count), how long their code is, what a valid program has. -/
set_option linter.unusedVariables false
namespace Go.Proofs.Ytiifbdkedainnaa.AL
mutual
def flatE : Ex → Int → Bool
  | .mk _ _ _ kids, d => decide (d ≠ 0) && flatEL kids (d - 1)
def flatEL : List Ex → Int → Bool
  | [], _ => true
  | e :: es, d => flatE e d && flatEL es d
end
theorem flatE_eq (e : Ex) (d : Int) : flatE e d = (decide (d ≠ 0) && flatEL e.kids (d - 1)) := by cases e; rw [flatE]; rfl
mutual
/-- The count of statements and expressions, as far as it is not over a number, nor deeper than another one; n was counted before. -/
def szS : St → Int → Int → Int → Int
  | .mk _ _ _ a b t e, most, deep, n =>
    (n + 1 + size a most + size b most + szL t (most - (n + 1 + size a most + size b most)) (deep - 1) 0) +
      szL e (most - (n + 1 + size a most + size b most + szL t (most - (n + 1 + size a most + size b most)) (deep - 1) 0)) (deep - 1) 0
def szL : List St → Int → Int → Int → Int
  | [], _, _, n => n
  | s :: ss, most, deep, n => if n ≤ most then (if deep = 0 ∨ flatE s.a 200 = false ∨ flatE s.b 200 = false then most + 1 else szL ss most deep (szS s most deep n)) else n
end
theorem szS_eq (s : St) (most deep n : Int) : szS s most deep n =
    (n + 1 + size s.a most + size s.b most + szL s.thn (most - (n + 1 + size s.a most + size s.b most)) (deep - 1) 0) +
      szL s.els (most - (n + 1 + size s.a most + size s.b most + szL s.thn (most - (n + 1 + size s.a most + size s.b most)) (deep - 1) 0)) (deep - 1) 0 := by
  cases s; rw [szS]; rfl
theorem szL_over (l : List St) (most deep n : Int) (h : most < n) : szL l most deep n = n := by
  cases l with
  | nil => rfl
  | cons s ss => rw [szL, if_neg (by omega)]
theorem size_cap (e : Ex) (b : Int) (hb : 0 ≤ b) : (size e b ≤ b → size e b = nodes e) ∧ size e b ≤ nodes e + 0 ∧ 1 ≤ size e b ∧ size e b ≤ b + 1 := by
  have h1 := size_bd e b
  have h2 := size_nodes e b
  have h3 : 1 ≤ nodes e := by cases e; simp [nodes]
  have h4 : size e b ≤ nodes e := by
    rcases Nat.lt_or_ge b.toNat (nodes e) with hlt | hge
    · omega
    · rw [h2.1 (by omega)]; omega
  omega
theorem sz_key (s : St) : ∀ most deep n : Int, 0 ≤ n → n ≤ most → n < szS s most deep n ∧ (szS s most deep n ≤ most → szS s most deep n = n + wS s) ∧ szS s most deep n ≤ 3 * most + 3 := by
  have hl : ∀ l : List St, (∀ k ∈ l, ∀ most deep n : Int, 0 ≤ n → n ≤ most → n < szS k most deep n ∧ (szS k most deep n ≤ most → szS k most deep n = n + wS k) ∧ szS k most deep n ≤ 3 * most + 3) →
      ∀ most deep n : Int, 0 ≤ n → n ≤ szL l most deep n ∧ (szL l most deep n ≤ most → szL l most deep n = n + wSL l) ∧ (szL l most deep n ≤ n ∨ szL l most deep n ≤ 3 * most + 3) := by
    intro l
    induction l with
    | nil => intro _ most deep n hn; simp only [szL, wSL]; omega
    | cons x xs ih =>
      intro h most deep n hn
      simp only [szL, wSL]
      split
      · rename_i hnm
        split
        · omega
        · have h1 := h x (by simp) most deep n hn hnm
          have h2 := ih (fun k hk => h k (by simp [hk])) most deep (szS x most deep n) (by omega)
          omega
      · omega
  induction s using St.ind with
  | h s ih1 ih2 =>
    intro most deep n hn hnm
    rw [szS_eq, wS_eq]
    have ha := size_cap s.a most (by omega)
    have hb := size_cap s.b most (by omega)
    generalize size s.a most = ka at *
    generalize size s.b most = kb at *
    have h1 := hl s.thn ih1 (most - (n + 1 + ka + kb)) (deep - 1) 0 (by omega)
    generalize szL s.thn (most - (n + 1 + ka + kb)) (deep - 1) 0 = r1 at *
    have h2 := hl s.els ih2 (most - (n + 1 + ka + kb + r1)) (deep - 1) 0 (by omega)
    generalize szL s.els (most - (n + 1 + ka + kb + r1)) (deep - 1) 0 = r2 at *
    omega
theorem szL_key (l : List St) : ∀ most deep n : Int, 0 ≤ n → n ≤ szL l most deep n ∧ (szL l most deep n ≤ most → szL l most deep n = n + wSL l) ∧ (szL l most deep n ≤ n ∨ szL l most deep n ≤ 3 * most + 3) := by
  induction l with
  | nil => intro most deep n hn; simp only [szL, wSL]; omega
  | cons x xs ih =>
    intro most deep n hn
    simp only [szL, wSL]
    split
    · rename_i hnm
      split
      · omega
      · have h1 := sz_key x most deep n hn hnm
        have h2 := ih most deep (szS x most deep n) (by omega)
        omega
    · omega
/-- Programs that are small enough to be examined. -/
def fewB5 (p : Prg) : Bool :=
  p.vars.all (fun v => decide (v.name.size ≤ 40)) && (decide (p.vars.length ≤ 20) && (decide (p.name.size ≤ 40) && decide (szL p.on0 3000 200 0 + szL p.on1 3000 200 0 + szL p.on2 3000 200 0 + szL p.on3 3000 200 0 + szL p.on4 3000 200 0 ≤ 3000)))
theorem few5_all {p : Prg} (h : fewB5 p = true) : (∀ v ∈ p.vars, v.name.size ≤ 40) ∧ p.vars.length ≤ 20 ∧ p.name.size ≤ 40 ∧ wSL p.on0 + wSL p.on1 + wSL p.on2 + wSL p.on3 + wSL p.on4 ≤ 3000 := by
  simp only [fewB5, Bool.and_eq_true, decide_eq_true_eq, List.all_eq_true] at h
  obtain ⟨h1, h2, h3, h4⟩ := h
  have k0 := szL_key p.on0 3000 200 0 (by omega)
  have k1 := szL_key p.on1 3000 200 0 (by omega)
  have k2 := szL_key p.on2 3000 200 0 (by omega)
  have k3 := szL_key p.on3 3000 200 0 (by omega)
  have k4 := szL_key p.on4 3000 200 0 (by omega)
  exact ⟨h1, h2, h3, by omega⟩
theorem wS_fine (s : St) : wS s ≤ 900000 → fine s := by
  have hl : ∀ l : List St, (∀ k ∈ l, wS k ≤ 900000 → fine k) → wSL l ≤ 900000 → fineL l := by
    intro l
    induction l with
    | nil => intro _ _; trivial
    | cons x xs ih =>
      intro h h2
      simp only [wSL] at h2
      exact ⟨h x (by simp) (by omega), ih (fun k hk => h k (by simp [hk])) (by omega)⟩
  induction s using St.ind with
  | h s h1 h2 =>
    intro h
    rw [wS_eq] at h
    rw [fine_eq]
    exact ⟨by omega, by omega, hl _ h1 (by omega), hl _ h2 (by omega)⟩
theorem wSL_fine : ∀ {l : List St}, wSL l ≤ 900000 → fineL l
  | [], _ => trivial
  | s :: l, h => by simp only [wSL] at h; exact ⟨wS_fine s (by omega), wSL_fine (by omega)⟩
/-- What is small can be counted. -/
theorem okP_of {p : Prg} (h : wSL p.on0 + wSL p.on1 + wSL p.on2 + wSL p.on3 + wSL p.on4 ≤ 900000) : okP p := by
  have := manyL_le p.on0; have := manyL_le p.on1; have := manyL_le p.on2; have := manyL_le p.on3; have := manyL_le p.on4
  exact ⟨⟨by omega, wSL_fine (by omega)⟩, ⟨by omega, wSL_fine (by omega)⟩, ⟨by omega, wSL_fine (by omega)⟩, ⟨by omega, wSL_fine (by omega)⟩, ⟨by omega, wSL_fine (by omega)⟩⟩
mutual
/-- How many instructions statements need. -/
def insS : St → Nat
  | .mk k _ _ a b t e => nodes a + 1 + (if k = 2 then nodes b + insSL t + insSL e + (if e.length = 0 then 0 else 1) else 0)
def insSL : List St → Nat
  | [] => 0
  | s :: ss => insS s + insSL ss
end
theorem insS_eq (s : St) : insS s = nodes s.a + 1 + (if s.kind = 2 then nodes s.b + insSL s.thn + insSL s.els + (if s.els.length = 0 then 0 else 1) else 0) := by cases s; rw [insS]; rfl
theorem ins_le (s : St) : insS s ≤ 2 * wS s := by
  have hl : ∀ l : List St, (∀ k ∈ l, insS k ≤ 2 * wS k) → insSL l ≤ 2 * wSL l := by
    intro l
    induction l with
    | nil => intro _; simp [insSL]
    | cons x xs ih => intro h; simp only [insSL, wSL]; have := h x (by simp); have := ih (fun k hk => h k (by simp [hk])); omega
  induction s using St.ind with
  | h s h1 h2 =>
    rw [insS_eq, wS_eq]
    have := hl _ h1; have := hl _ h2
    have : 1 ≤ nodes s.b := by rw [nodes_eq]; omega
    split <;> (try split) <;> omega
theorem insSL_le : ∀ l : List St, insSL l ≤ 2 * wSL l
  | [] => by simp [insSL]
  | s :: l => by simp only [insSL, wSL]; have := ins_le s; have := insSL_le l; omega
theorem codeS_len {vs : List Un} (s : St) : stS vs s = 0 → ∀ at', (codeS s at').length = insS s := by
  have hl : ∀ l : List St, (∀ k ∈ l, stS vs k = 0 → ∀ at', (codeS k at').length = insS k) → stSL vs l = 0 → ∀ at', (codeSs l at').length = insSL l := by
    intro l
    induction l with
    | nil => intro _ _ at'; simp [codeSs, insSL]
    | cons x xs ih =>
      intro h h2 at'
      simp only [stSL] at h2
      split at h2
      · rename_i hx
        simp only [codeSs, insSL, List.length_append]
        rw [h x (by simp) hx, ih (fun k hk => h k (by simp [hk])) h2]
      · contradiction
  induction s using St.ind with
  | h s h1 h2 =>
    intro h at'
    rw [codeS_eq, insS_eq]
    rcases stS_ok h with ⟨hk1, hv0, hv1, u, hu⟩ | ⟨hk2, hr1, hr2, ⟨u, hu⟩, ⟨u', hu'⟩, ht, he⟩
    · rw [if_pos hk1, if_neg (by omega)]; simp [codeE_len]
    · rw [if_neg (by omega), if_pos hk2]
      have g1 := hl _ h1 ht
      have g2 := hl _ h2 he
      cases hel : s.els with
      | nil => simp only [List.length_append, List.length_cons, List.length_nil, codeE_len, g1, insSL, if_true]; omega
      | cons x xs =>
        rw [hel] at g2
        simp only [List.length_append, List.length_cons, List.length_nil, codeE_len, g1, g2]
        rw [if_neg (by omega)]; omega
theorem codeSs_len {vs : List Un} : ∀ (l : List St), stSL vs l = 0 → ∀ at', (codeSs l at').length = insSL l
  | [], _, at' => by simp [codeSs, insSL]
  | x :: xs, h, at' => by
    simp only [stSL] at h
    split at h
    · rename_i hx
      simp only [codeSs, insSL, List.length_append]
      rw [codeS_len x hx, codeSs_len xs h]
    · contradiction
/-- What a valid program has. -/
structure Val (p : Prg) (vs : List Un) : Prop where
  ks : ksL p.vars = some vs
  len : vs.length = p.vars.length
  lo : 1 ≤ p.vars.length
  hi : p.vars.length ≤ 12
  h0 : stSL vs p.on0 = 0 ∧ smSL p.on0 = true ∧ manyL p.on0 ≤ 100
  h1 : stSL vs p.on1 = 0 ∧ smSL p.on1 = true ∧ manyL p.on1 ≤ 100
  h2 : stSL vs p.on2 = 0 ∧ smSL p.on2 = true ∧ manyL p.on2 ≤ 100
  h3 : stSL vs p.on3 = 0 ∧ smSL p.on3 = true ∧ manyL p.on3 ≤ 100
  h4 : stSL vs p.on4 = 0 ∧ smSL p.on4 = true ∧ manyL p.on4 ≤ 100
theorem handS_0 {vs : List Un} {l : List St} (h : handS vs l = 0) : stSL vs l = 0 ∧ smSL l = true ∧ manyL l ≤ 100 := by
  unfold handS at h
  split at h
  · contradiction
  · split at h
    · exact ⟨h, by assumption, by omega⟩
    · contradiction
theorem checkS_val {p : Prg} (h : checkS p = (-1, 0)) (lo : 1 ≤ p.vars.length) : ∃ vs, Val p vs := by
  unfold checkS at h
  split at h
  · cases h
  · rename_i vs hks
    split at h
    · cases h
    · unfold evS at h
      refine ⟨vs, ?_⟩
      repeat' (split at h; (first | (exfalso; simp only [Prod.mk.injEq] at h; omega) | skip))
      all_goals first
        | (exact ⟨hks, ksL_len hks, lo, by omega, handS_0 (by omega), handS_0 (by omega), handS_0 (by omega), handS_0 (by omega), handS_0 (by omega)⟩)
        | (exfalso; simp at h; done)
theorem validB_val {p : Prg} (h : validB p = true) : ∃ vs, Val p vs := by
  simp only [validB, Bool.and_eq_true, decide_eq_true_eq] at h
  exact checkS_val h.2.2.2.2.2.1 h.2.1
end Go.Proofs.Ytiifbdkedainnaa.AL

/- Plain laws: the laws of chapter 09. -/
set_option linter.unusedVariables false
set_option linter.unusedSimpArgs false
namespace Go.Proofs.Ytiifbdkedainnaa.AL
theorem codeSs_app : ∀ (a b : List St) (n : Nat), codeSs (a ++ b) n = codeSs a n ++ codeSs b (n + (codeSs a n).length)
  | [], b, n => by simp [codeSs]
  | s :: a, b, n => by
    rw [List.cons_append, codeSs, codeSs_app a b, codeSs, List.append_assoc, List.length_append, Nat.add_assoc]
theorem codeE_ops {vs : List Un} (e : Ex) : ∀ u, inf vs e = .ok u → ∀ x ∈ codeE e, x.op ≠ 12 ∧ x.op ≠ 13 := by
  induction e using Ex.ind with
  | h e ih =>
    intro u hu
    rcases inf_grants hu with ⟨hk, hop⟩ | ⟨a, b, x, y, hk, h1, h2, ha, hb0⟩
    · obtain ⟨op, n, un, kids⟩ := e
      simp only [Ex.kids, Ex.op, Ex.n, Ex.unit] at *
      subst hk
      intro x hx
      simp [codeE] at hx
      subst hx
      simp only
      omega
    · obtain ⟨op, n, un, kids⟩ := e
      simp only [Ex.kids, Ex.op, Ex.n, Ex.unit] at *
      subst hk
      intro z hz
      have hc : codeE (.mk op n un [a, b]) = codeE a ++ (codeE b ++ [⟨op, 0, 0⟩]) := by simp [codeE, codeEs]
      rw [hc] at hz
      simp only [List.mem_append, List.mem_singleton] at hz
      rcases hz with hz | hz | hz
      · exact ih a (by simp) x ha z hz
      · exact ih b (by simp) y hb0 z hz
      · subst hz; simp only; omega
theorem sh_codeE {vs : List Un} {e : Ex} {u : Un} (h : inf vs e = .ok u) (n : Int) : (codeE e).map (shI n) = codeE e := by
  have := codeE_ops e u h
  rw [List.map_congr_left (g := id) (fun x hx => by unfold shI; rw [if_neg (by have := this x hx; omega)]; rfl), List.map_id]
theorem shI_12 (n m r : Int) : shI n ⟨12, m, r⟩ = ⟨12, m + n, r⟩ := rfl
theorem shI_13 (n m r : Int) : shI n ⟨13, m, r⟩ = ⟨13, m + n, r⟩ := rfl
theorem shI_11 (n m r : Int) : shI n ⟨11, m, r⟩ = ⟨11, m, r⟩ := rfl
theorem codeS_sh {vs : List Un} (s : St) : stS vs s = 0 → ∀ n m, codeS s (n + m) = (codeS s m).map (shI n) := by
  have hl : ∀ l : List St, (∀ k ∈ l, stS vs k = 0 → ∀ n m, codeS k (n + m) = (codeS k m).map (shI n)) → stSL vs l = 0 → ∀ n m, codeSs l (n + m) = (codeSs l m).map (shI n) := by
    intro l
    induction l with
    | nil => intro _ _ n m; simp [codeSs]
    | cons x xs ih =>
      intro h h2 n m
      simp only [stSL] at h2
      split at h2
      · rename_i hx
        simp only [codeSs, List.map_append]
        rw [h x (by simp) hx n m, List.length_map, Nat.add_assoc, ih (fun k hk => h k (by simp [hk])) h2]
      · contradiction
  induction s using St.ind with
  | h s h1 h2 =>
    intro h n m
    rw [codeS_eq, codeS_eq]
    rcases stS_ok h with ⟨hk1, hv0, hv1, u, hu⟩ | ⟨hk2, hr1, hr2, ⟨u, hu⟩, ⟨u', hu'⟩, ht, he⟩
    · rw [if_pos hk1, if_pos hk1, List.map_append, sh_codeE hu]; rfl
    · rw [if_neg (by omega), if_neg (by omega)]
      have g1 := hl _ h1 ht
      have g2 := hl _ h2 he
      cases hel : s.els with
      | nil =>
        simp only [Nat.add_assoc, g1, List.map_append, List.length_map, sh_codeE hu, sh_codeE hu', List.map_cons, List.map_nil, shI_12]
        simp only [Int.natCast_add, Int.add_comm, Int.add_left_comm, Int.add_assoc]
      | cons x xs =>
        rw [hel] at g2
        simp only [Nat.add_assoc, g1, g2, List.map_append, List.length_map, sh_codeE hu, sh_codeE hu', List.map_cons, List.map_nil, shI_12, shI_13]
        simp only [Int.natCast_add, Int.add_comm, Int.add_left_comm, Int.add_assoc]
theorem codeSs_sh {vs : List Un} : ∀ (l : List St), stSL vs l = 0 → ∀ n m, codeSs l (n + m) = (codeSs l m).map (shI n)
  | [], _, n, m => by simp [codeSs]
  | x :: xs, h, n, m => by
    simp only [stSL] at h
    split at h
    · rename_i hx
      simp only [codeSs, List.map_append]
      rw [codeS_sh x hx n m, List.length_map, Nat.add_assoc, codeSs_sh xs h]
    · contradiction
/-- The code of two lists is that of the first, and that of the second behind it. -/
theorem codeSs_join {vs : List Un} {a b : List St} (h : stSL vs b = 0) : codeSs (a ++ b) 0 = joinS (codeSs a 0) (codeSs b 0) := by
  rw [codeSs_app, Nat.zero_add]
  have := codeSs_sh b h (codeSs a 0).length 0
  rw [Nat.add_zero] at this
  rw [this]; rfl
theorem stSL_app {vs : List Un} : ∀ {a b : List St}, stSL vs a = 0 → stSL vs b = 0 → stSL vs (a ++ b) = 0
  | [], b, _, h => h
  | x :: xs, b, h, k => by
    simp only [stSL] at h
    split at h
    · rename_i hx
      simp only [List.cons_append, stSL]
      rw [if_pos hx]
      exact stSL_app h k
    · contradiction
end Go.Proofs.Ytiifbdkedainnaa.AL

/- Plain laws: programs with other handlers. -/
set_option linter.unusedVariables false
set_option linter.unusedSimpArgs false
namespace Go.Proofs.Ytiifbdkedainnaa.AL
def onP (p : Prg) (a b c d e : List St) : Prg := ⟨p.name, p.vars, a, b, c, d, e, p.window, p.pace⟩
theorem handS_nil (vs : List Un) : handS vs [] = 0 := by unfold handS; simp [manyL, smSL, stSL]
theorem handS_of {vs : List Un} {l : List St} (h : stSL vs l = 0 ∧ smSL l = true ∧ manyL l ≤ 100) : handS vs l = 0 := by
  unfold handS; rw [if_neg (by omega), if_pos h.2.1]; exact h.1
theorem checkS_of {p : Prg} {vs : List Un} (hk : ksL p.vars = some vs) (hi : p.vars.length ≤ 12) (h0 : handS vs p.on0 = 0) (h1 : handS vs p.on1 = 0) (h2 : handS vs p.on2 = 0) (h3 : handS vs p.on3 = 0) (h4 : handS vs p.on4 = 0) : checkS p = (-1, 0) := by
  unfold checkS; rw [hk]; simp only; rw [if_neg (by omega)]; unfold evS; simp [h0, h1, h2, h3, h4]
theorem valid_on {p : Prg} {vs : List Un} (hv : validB p = true) (V : Val p vs) {a b c d e : List St} (h0 : handS vs a = 0) (h1 : handS vs b = 0) (h2 : handS vs c = 0) (h3 : handS vs d = 0) (h4 : handS vs e = 0) : validB (onP p a b c d e) = true := by
  have hc := checkS_of (p := onP p a b c d e) V.ks V.hi h0 h1 h2 h3 h4
  simp only [validB, Bool.and_eq_true, decide_eq_true_eq] at hv ⊢
  refine ⟨hv.1, hv.2.1, hv.2.2.1, hv.2.2.2.1, hv.2.2.2.2.1, hc, ?_⟩
  exact hv.2.2.2.2.2.2
/-- One handler alone. -/
def withP (p : Prg) (l : List St) : Prg := onP p l [] [] [] []
theorem with_valid {p : Prg} {vs : List Un} (hv : validB p = true) (V : Val p vs) (l : List St) : validB (withP p l) = decide (handS vs l = 0) := by
  by_cases h : handS vs l = 0
  · rw [decide_eq_true h]
    exact valid_on hv V h (handS_nil _) (handS_nil _) (handS_nil _) (handS_nil _)
  · rw [decide_eq_false h]
    cases hw : validB (withP p l) with
    | false => rfl
    | true =>
      exfalso
      obtain ⟨vs', V'⟩ := validB_val hw
      have : some vs' = some vs := V'.ks.symm.trans V.ks
      simp only [Option.some.injEq] at this
      subst this
      exact h (handS_of V'.h0)
theorem smSL_app' {a b : List St} (h : smSL a = true) (k : smSL b = true) : smSL (a ++ b) = true := by rw [smSL_app, h, k]; rfl
/-- The program without a handler. -/
def dropP (p : Prg) (k : Nat) : Prg := onP p (if k = 0 then [] else p.on0) (if k = 1 then [] else p.on1) (if k = 2 then [] else p.on2) (if k = 3 then [] else p.on3) (if k = 4 then [] else p.on4)
theorem drop_valid {p : Prg} (hv : validB p = true) (k : Nat) : validB (dropP p k) = true := by
  obtain ⟨vs, V⟩ := validB_val hv
  refine valid_on hv V ?_ ?_ ?_ ?_ ?_ <;> split <;> first | exact handS_nil _ | exact handS_of V.h0 | exact handS_of V.h1 | exact handS_of V.h2 | exact handS_of V.h3 | exact handS_of V.h4
def handP (p : Prg) (k : Nat) : List St := if k = 0 then p.on0 else if k = 1 then p.on1 else if k = 2 then p.on2 else if k = 3 then p.on3 else p.on4
theorem val_hand {p : Prg} {vs : List Un} (V : Val p vs) (k : Nat) : stSL vs (handP p k) = 0 ∧ smSL (handP p k) = true ∧ manyL (handP p k) ≤ 100 := by
  unfold handP
  repeat' split
  · exact V.h0
  · exact V.h1
  · exact V.h2
  · exact V.h3
  · exact V.h4
theorem codeSs_nil (n : Nat) : codeSs [] n = [] := by simp [codeSs]
end Go.Proofs.Ytiifbdkedainnaa.AL

/- Plain laws: damaged code. -/
set_option linter.unusedVariables false
set_option linter.unusedSimpArgs false
namespace Go.Proofs.Ytiifbdkedainnaa.AL
theorem verH_ok {l : List Ins} {vars : Int} (h : verH l vars = true) {i : Nat} {x : Ins} (hx : l[i]? = some x) : insOk x i l.length vars = true := by
  obtain ⟨ht, hc⟩ := verH_cert h
  exact (hc.at' i x hx).ok
/-- Where one instruction is not as it must be. -/
theorem verH_set {l : List Ins} {vars : Int} {i : Nat} {y : Ins} (hi : i < l.length) (hy : insOk y i l.length vars = false) : verH (l.set i y) vars = false := by
  cases h : verH (l.set i y) vars with
  | false => rfl
  | true =>
    have := verH_ok h (i := i) (x := y) (by simp [hi])
    rw [List.length_set] at this
    rw [hy] at this; cases this
theorem verH_snoc {l : List Ins} {vars : Int} {e : Ins} (h : verH l vars = true) (he : 0 < takes e.op ∨ (e.op ≠ 13 ∧ takes e.op = 0 ∧ puts e.op ≠ 0)) : verH (l ++ [e]) vars = false := by
  cases h2 : verH (l ++ [e]) vars with
  | false => rfl
  | true =>
    exfalso
    obtain ⟨ht, hc, hr⟩ := verH_iff.1 h
    obtain ⟨ht', hc'⟩ := verH_cert h2
    have key : ∀ i, i ≤ l.length → ht' i = ht i := by
      intro i
      induction i using Nat.strongRecOn with
      | _ i ih =>
        intro hi
        rcases hr i hi with h0 | ⟨k, x, hk, hx, hl⟩
        · subst h0; rw [hc.zero, hc'.zero]
        · have hkl : k < l.length := (List.getElem?_eq_some_iff.1 hx).1
          have e := ih k hk (by omega)
          have a := hc.at' k x hx
          have b := hc'.at' k x (by rw [List.getElem?_append_left hkl]; exact hx)
          rcases hl with ⟨h1, h2⟩ | ⟨h1, h2⟩
          · subst h2; rw [a.nxt h1, b.nxt h1, e]
          · subst h2; rw [a.jmp h1, b.jmp h1, e]
    have h0 := key l.length (Nat.le_refl _)
    rw [hc.last] at h0
    have b := hc'.at' l.length e (by simp)
    have hl := hc'.last
    rw [List.length_append] at hl
    rcases he with he | ⟨h13, t0, p0⟩
    · have := b.tk; omega
    · have := b.nxt h13
      simp only [List.length_cons, List.length_nil, Nat.zero_add] at hl
      omega
end Go.Proofs.Ytiifbdkedainnaa.AL

set_option maxHeartbeats 8000000
set_option maxRecDepth 100000
set_option linter.unusedVariables false
set_option linter.unusedSimpArgs false
set_option linter.unusedSectionVars false
namespace Go.Proofs.Ytiifbdkedainnaa.Y
open Go.Proofs.Ytiifbdkedainnaa.AL Go.Proofs Go
attribute [local irreducible] AWP AWL AWG AWR AWE AWX AWO AWSeq AWSG AWSR AWSO AWSE AWSF GoodP OGW OGR OGE OGX PGW PGR PGE Wk AWLoop AWPD AWLD

/-- A writer's cells and its row. -/
abbrev wC (rid n : Nat) : AObj := .cells 58 [.os rid 0 n n]
abbrev iR (acc : List Ins) : AObj := .arr 41 3 (pvRows (acc.map encI))
theorem wadd_run (wid rid : Nat) (hne : wid ≠ rid) (acc : List Ins) (o n r : Int) (hacc : acc.length ≤ 1000000000) (H0 : List AObj) (hw : H0[wid]? = some (wC rid acc.length)) (hr : H0[rid]? = some (iR acc)) :
    ARun Try.prog 44 [.p wid 0, .i o, .i n, .i r] H0 (.ret (.i acc.length) ((H0.set rid (iR (acc ++ [⟨o, n, r⟩]))).set wid (wC rid (acc.length + 1)))) := by
  have g1 : ∀ L, (H0 ++ L)[wid]? = some (wC rid acc.length) := getOut hw
  have g2 : ∀ L, (H0 ++ L)[rid]? = some (iR acc) := getOut hr
  have s1 : ∀ L x, (H0 ++ L).set rid x = H0.set rid x ++ L := fun L x => setOut hr L x
  have g3 : ∀ x, (H0.set rid x)[wid]? = some (wC rid acc.length) := fun x => by rw [List.getElem?_set_ne (Ne.symm hne)]; exact hw
  have g4 : ∀ x L, (H0.set rid x ++ L)[wid]? = some (wC rid acc.length) := fun x L => getOut (g3 x) L
  have s2 : ∀ x y L, (H0.set rid x ++ L).set wid y = (H0.set rid x).set wid y ++ L := fun x y L => setOut (g3 x) L y
  have g5 : ∀ x y L, ((H0.set rid x).set wid y ++ L)[wid]? = some y := fun x y L => getSetL (g3 x) y L
  have g6 : ∀ x y L, ((H0.set rid x).set wid y ++ L)[rid]? = some x := fun x y L => getOut (by rw [List.getElem?_set_ne hne]; exact getSet hr x) L
  have hlen2 : (pvRows ((acc ++ [(⟨o, n, r⟩ : Ins)]).map encI)).length = acc.length + 1 := by simp [pvRows]
  have hf1 : (acc.length + 1) * 24 ≤ 140737488355328 := by omega
  have hf2 : acc.length + 1 ≤ 9223372036854775807 := by omega
  have hap : pvRows (acc.map encI) ++ [[.i o, .i n, .i r]] = pvRows ((acc ++ [(⟨o, n, r⟩ : Ins)]).map encI) := by simp [pvRows, encI, cI]
  have hlen : (pvRows (acc.map encI)).length = acc.length := by simp [pvRows]
  have hw1 : IntKind.i64.wrap (((acc.length + 1 : Nat) : Int) - 1) = (acc.length : Int) := by rw [wrap_of (by omega) (by omega)]; omega
  have hrl : rid < H0.length := (List.getElem?_eq_some_iff.1 hr).1
  (refine ARun.intro Try.func44 rfl Try.call44 Try.ntmps44 Try.results44 ?_; simp only [List.length_cons, List.length_nil, List.length_map, Nat.reduceAdd, Nat.reduceSub, List.replicate_succ, List.replicate_zero, List.cons_append, List.nil_append])
  (have ww1 := hw; have ww2 := hr; have ww3 := g3; have ww4 := g1; have ww5 := g2; have ww6 := s1; have ww7 := g4; have ww8 := s2; have ww9 := g5; have ww10 := g6; have ww11 := hf1; have ww12 := hf2; have ww13 := hap; have ww14 := hlen; have ww15 := hlen2; have ww16 := hw1; refine wkS ?_; clear ww1 ww2 ww3 ww4 ww5 ww6 ww7 ww8 ww9 ww10 ww11 ww12 ww13 ww14 ww15 ww16; (repeat' first | exact True.intro | refine Lf.mk ?_ ?_); all_goals intro hP)
  ((try simp only [go_sem, Nat.reduceAdd, Nat.reduceSub, Nat.reduceMul, Nat.reduceLeDiff, Nat.reduceLT, Nat.reduceEqDiff, Int.reduceToNat, Int.reduceAdd, Int.reduceMul, Int.reduceSub, Int.reduceLT, Int.reduceLE, Int.reduceEq, Int.reduceNeg, Int.reduceBEq, Int.reduceBNe, ↓reduceIte, reduceCtorEq]); (first | refine ⟨_, rfl, _, rfl, Fin.set20 1 ?_ ?_ ?_⟩ | refine ⟨_, rfl, _, rfl, Fin.set2 1 ?_ ?_ ?_⟩))
  · exact under_pvRows _
  · simp [AObj.under, AV.under, hrl]
  · simp only [AV.low]
end Go.Proofs.Ytiifbdkedainnaa.Y

set_option maxHeartbeats 8000000
set_option maxRecDepth 100000
set_option linter.unusedVariables false
set_option linter.unusedSimpArgs false
set_option linter.unusedSectionVars false
namespace Go.Proofs.Ytiifbdkedainnaa.Y
open Go.Proofs.Ytiifbdkedainnaa.AL Go.Proofs Go
attribute [local irreducible] AWP AWL AWG AWR AWE AWX AWO AWSeq AWSG AWSR AWSO AWSE AWSF GoodP OGW OGR OGE OGX PGW PGR PGE Wk AWLoop AWPD AWLD

/-- The memory with another code in the writer. -/
def mW (wid rid : Nat) (H : List AObj) (acc : List Ins) : List AObj := (H.set rid (iR acc)).set wid (wC rid acc.length)
/-- A writer lies in the memory. -/
structure Wr (wid rid : Nat) (H : List AObj) (acc : List Ins) : Prop where
  ne : wid ≠ rid
  w : H[wid]? = some (wC rid acc.length)
  r : H[rid]? = some (iR acc)
theorem mW_len (wid rid : Nat) (H : List AObj) (acc : List Ins) : (mW wid rid H acc).length = H.length := by simp [mW]
theorem Wr.app {wid rid : Nat} {H : List AObj} {acc : List Ins} (h : Wr wid rid H acc) (L : List AObj) : Wr wid rid (H ++ L) acc := ⟨h.ne, getOut h.w L, getOut h.r L⟩
theorem Wr.to {wid rid : Nat} {H : List AObj} {acc : List Ins} (h : Wr wid rid H acc) (acc' : List Ins) : Wr wid rid (mW wid rid H acc') acc' := by
  refine ⟨h.ne, ?_, ?_⟩
  · unfold mW
    exact getSet (o := wC rid acc.length) (by rw [List.getElem?_set_ne (Ne.symm h.ne)]; exact h.w) _
  · unfold mW
    rw [List.getElem?_set_ne h.ne]
    exact getSet h.r _
theorem Wr.mApp {wid rid : Nat} {H : List AObj} {acc : List Ins} (h : Wr wid rid H acc) (acc' : List Ins) (L : List AObj) : mW wid rid (H ++ L) acc' = mW wid rid H acc' ++ L := by
  unfold mW
  rw [setOut h.r, setOut (o := wC rid acc.length) (by rw [List.getElem?_set_ne (Ne.symm h.ne)]; exact h.w)]
theorem Wr.mm {wid rid : Nat} {H : List AObj} {acc : List Ins} (h : Wr wid rid H acc) (a b : List Ins) : mW wid rid (mW wid rid H a) b = mW wid rid H b := by
  unfold mW
  rw [List.set_comm _ _ h.ne, List.set_set, List.set_set]
theorem wadd (wid rid : Nat) (acc : List Ins) (o n r : Int) (hacc : acc.length ≤ 1000000000) (H0 : List AObj) (h : Wr wid rid H0 acc) :
    ARun Try.prog 44 [.p wid 0, .i o, .i n, .i r] H0 (.ret (.i acc.length) (mW wid rid H0 (acc ++ [⟨o, n, r⟩]))) := by
  have := wadd_run wid rid h.ne acc o n r hacc H0 h.w h.r
  unfold mW
  simpa using this
theorem mW_get0 (wid rid : Nat) (H : List AObj) (X : List Ins) (o : AObj) (L : List AObj) : (mW wid rid H X ++ o :: L)[H.length]? = some o := by
  have := getO0 (mW wid rid H X) o L; rwa [mW_len] at this
theorem mW_getk (wid rid : Nat) (H : List AObj) (X : List Ins) (L : List AObj) (k : Nat) : (mW wid rid H X ++ L)[H.length + k]? = L[k]? := by
  have := getOk (mW wid rid H X) L k; rwa [mW_len] at this
theorem mW_set0 (wid rid : Nat) (H : List AObj) (X : List Ins) (o x : AObj) (L : List AObj) : (mW wid rid H X ++ o :: L).set H.length x = mW wid rid H X ++ x :: L := by
  have := setO0 (mW wid rid H X) o x L; rwa [mW_len] at this
theorem mW_setk (wid rid : Nat) (H : List AObj) (X : List Ins) (L : List AObj) (k : Nat) (x : AObj) : (mW wid rid H X ++ L).set (H.length + k) x = mW wid rid H X ++ L.set k x := by
  have := setOk (mW wid rid H X) L k x; rwa [mW_len] at this
theorem wexpr_run {vs : List Un} (wid rid : Nat) (e : Ex) : ∀ u, inf vs e = .ok u → ∀ (acc : List Ins) (H0 : List AObj), acc.length + (codeE e).length ≤ 1000000000 → Wr wid rid H0 acc →
    ARun Try.prog 45 [.p wid 0, .ag (cE e)] H0 (.ret (.tup []) (mW wid rid H0 (acc ++ codeE e))) := by
  induction e using Ex.ind with
  | h e ih =>
    intro u hu acc H0 hlen hW
    have m0 := mW_get0 wid rid H0
    have mk := mW_getk wid rid H0
    have n0 := mW_set0 wid rid H0
    have nk := mW_setk wid rid H0
    have ml := mW_len wid rid H0
    rcases inf_grants hu with ⟨hk, hop⟩ | ⟨a, b, x, y, hk, h1, h2, ha, hb0⟩
    · obtain ⟨op, n, un, kids⟩ := e
      simp only [Ex.kids, Ex.op, Ex.n, Ex.unit] at *
      subst hk
      have hc : codeE (.mk op n un []) = [⟨op, n, 0⟩] := by simp [codeE]
      rw [hc] at hlen ⊢
      have ca : ∀ L, ARun Try.prog 44 [.p wid 0, .i op, .i n, .i 0] (H0 ++ L) (.ret (.i acc.length) (mW wid rid H0 (acc ++ [⟨op, n, 0⟩]) ++ L)) := fun L => by
        rw [← hW.mApp]; exact wadd wid rid acc op n 0 (by simp at hlen; omega) (H0 ++ L) (hW.app L)
      have hop' : op = 1 ∨ op = 2 ∨ op = 3 := by omega
      clear hop hu ih
      show ARun Try.prog 45 [.p wid 0, .ag [.i op, .i n, .i un, .rs 4 []]] H0 _
      rcases hop' with rfl | rfl | rfl
      all_goals
        (refine ARun.intro Try.func45 rfl Try.call45 Try.ntmps45 Try.results45 ?_; simp only [List.length_cons, List.length_nil, List.length_map, Nat.reduceAdd, Nat.reduceSub, List.replicate_succ, List.replicate_zero, List.cons_append, List.nil_append])
        (refine wkS ?_; (repeat' first | exact True.intro | refine Lf.mk ?_ ?_); all_goals intro hP)
        refine awp_loop 1 ?_
        (have ww1 := m0; have ww2 := mk; have ww3 := n0; have ww4 := nk; have ww5 := ml; have cc1 := fun z1 => ca z1; refine wkS ?_; clear ww1 ww2 ww3 ww4 ww5 cc1; (repeat' first | exact True.intro | refine Lf.mk ?_ ?_); all_goals intro hP)
        (unfold mW; ((try simp only [go_sem, Nat.reduceAdd, Nat.reduceSub, Nat.reduceMul, Nat.reduceLeDiff, Nat.reduceLT, Nat.reduceEqDiff, Int.reduceToNat, Int.reduceAdd, Int.reduceMul, Int.reduceSub, Int.reduceLT, Int.reduceLE, Int.reduceEq, Int.reduceNeg, Int.reduceBEq, Int.reduceBNe, ↓reduceIte, reduceCtorEq]); (first | refine ⟨_, rfl, _, rfl, Fin.set20 1 ?_ ?_ ?_⟩ | refine ⟨_, rfl, _, rfl, Fin.set2 1 ?_ ?_ ?_⟩)))
        · exact under_pvRows _
        · have := (List.getElem?_eq_some_iff.1 hW.r).1; simp [AObj.under, AV.under, this]
        · simp [AV.low]
    · obtain ⟨op, n, un, kids⟩ := e
      simp only [Ex.kids, Ex.op, Ex.n, Ex.unit] at *
      subst hk
      have hc : codeE (.mk op n un [a, b]) = codeE a ++ (codeE b ++ [⟨op, 0, 0⟩]) := by simp [codeE, codeEs]
      rw [hc] at hlen ⊢
      simp only [List.length_append, List.length_cons, List.length_nil] at hlen
      have cA : ∀ L, ARun Try.prog 45 [.p wid 0, .ag (cE a)] (H0 ++ L) (.ret (.tup []) (mW wid rid H0 (acc ++ codeE a) ++ L)) := fun L => by
        rw [← hW.mApp]; exact ih a (by simp [Ex.kids]) x ha acc (H0 ++ L) (by omega) (hW.app L)
      have cB : ∀ L, ARun Try.prog 45 [.p wid 0, .ag (cE b)] (mW wid rid H0 (acc ++ codeE a) ++ L) (.ret (.tup []) (mW wid rid H0 (acc ++ (codeE a ++ codeE b)) ++ L)) := fun L => by
        have h1 := hW.to (acc ++ codeE a)
        have := ih b (by simp [Ex.kids]) y hb0 (acc ++ codeE a) (mW wid rid H0 (acc ++ codeE a) ++ L) (by simp only [List.length_append]; omega) (h1.app L)
        rwa [h1.mApp, hW.mm, List.append_assoc] at this
      have cC : ∀ L, ARun Try.prog 44 [.p wid 0, .i op, .i 0, .i 0] (mW wid rid H0 (acc ++ (codeE a ++ codeE b)) ++ L) (.ret (.i (acc ++ (codeE a ++ codeE b)).length) (mW wid rid H0 (acc ++ (codeE a ++ (codeE b ++ [⟨op, 0, 0⟩]))) ++ L)) := fun L => by
        have h1 := hW.to (acc ++ (codeE a ++ codeE b))
        have e : acc ++ (codeE a ++ (codeE b ++ [(⟨op, 0, 0⟩ : Ins)])) = acc ++ (codeE a ++ codeE b) ++ [⟨op, 0, 0⟩] := by simp
        have := wadd wid rid _ op 0 0 (by simp only [List.length_append]; omega) _ (h1.app L)
        rwa [h1.mApp, hW.mm, ← e] at this
      have hop' : op = 4 ∨ op = 5 ∨ op = 6 ∨ op = 7 ∨ op = 8 ∨ op = 9 ∨ op = 10 := by omega
      clear hu ih h1 h2 hc hlen
      show ARun Try.prog 45 [.p wid 0, .ag [.i op, .i n, .i un, .rs 4 [encE a, encE b]]] H0 _
      rw [encE_eq a, encE_eq b]
      rcases hop' with rfl | rfl | rfl | rfl | rfl | rfl | rfl
      all_goals
        (refine ARun.intro Try.func45 rfl Try.call45 Try.ntmps45 Try.results45 ?_; simp only [List.length_cons, List.length_nil, List.length_map, Nat.reduceAdd, Nat.reduceSub, List.replicate_succ, List.replicate_zero, List.cons_append, List.nil_append])
        (refine wkS ?_; (repeat' first | exact True.intro | refine Lf.mk ?_ ?_); all_goals intro hP)
        refine awp_loop 3 ?_
        (have ww1 := m0; have ww2 := mk; have ww3 := n0; have ww4 := nk; have ww5 := ml; have cc1 := fun z1 => cA z1; have cc2 := fun z1 => cB z1; have cc3 := fun z1 => cC z1; refine wkS ?_; clear ww1 ww2 ww3 ww4 ww5 cc1 cc2 cc3; (repeat' first | exact True.intro | refine Lf.mk ?_ ?_); all_goals intro hP)
        (unfold mW; ((try simp only [go_sem, Nat.reduceAdd, Nat.reduceSub, Nat.reduceMul, Nat.reduceLeDiff, Nat.reduceLT, Nat.reduceEqDiff, Int.reduceToNat, Int.reduceAdd, Int.reduceMul, Int.reduceSub, Int.reduceLT, Int.reduceLE, Int.reduceEq, Int.reduceNeg, Int.reduceBEq, Int.reduceBNe, ↓reduceIte, reduceCtorEq]); (first | refine ⟨_, rfl, _, rfl, Fin.set20 1 ?_ ?_ ?_⟩ | refine ⟨_, rfl, _, rfl, Fin.set2 1 ?_ ?_ ?_⟩)))
        · exact under_pvRows _
        · have := (List.getElem?_eq_some_iff.1 hW.r).1; simp [AObj.under, AV.under, this]
        · simp [AV.low]
end Go.Proofs.Ytiifbdkedainnaa.Y

set_option maxHeartbeats 8000000
set_option maxRecDepth 100000
set_option linter.unusedVariables false
set_option linter.unusedSimpArgs false
set_option linter.unusedSectionVars false
namespace Go.Proofs.Ytiifbdkedainnaa.Y
open Go.Proofs.Ytiifbdkedainnaa.AL Go.Proofs Go
attribute [local irreducible] AWP AWL AWG AWR AWE AWX AWO AWSeq AWSG AWSR AWSO AWSE AWSF GoodP OGW OGR OGE OGX PGW PGR PGE Wk AWLoop AWPD AWLD
theorem dr46_0_X20n : Drawn Try.prog 0 (regOps 0 ((Try.f46.body).getD .skip)) [12] [] [.win [0], .win [0], .win [0], .win [0], .win [0], .win [0], .win [0], .win [0], .win [0], .win [0], .win [0], .win [0], .eff 0] 1 [] := ⟨rfl, by as_aux_lemma => kernel_rfl⟩

theorem whr_run (wid rid : Nat) (acc : List Ins) (k : Nat) (x : Ins) (hx : acc[k]? = some x) (hacc : acc.length ≤ 1000000000) (H0 : List AObj) (h : Wr wid rid H0 acc) :
    ARun Try.prog 46 [.p wid 0, .i k] H0 (.ret (.tup []) (mW wid rid H0 (acc.set k ⟨x.op, acc.length, x.rel⟩))) := by
  have hm : mW wid rid H0 (acc.set k ⟨x.op, acc.length, x.rel⟩) = H0.set rid (iR (acc.set k ⟨x.op, acc.length, x.rel⟩)) := by
    unfold mW
    have g3 : (H0.set rid (iR (acc.set k ⟨x.op, acc.length, x.rel⟩)))[wid]? = some (wC rid acc.length) := by rw [List.getElem?_set_ne (Ne.symm h.ne)]; exact h.w
    obtain ⟨h1, h2⟩ := List.getElem?_eq_some_iff.1 g3
    rw [List.length_set, ← h2]
    exact List.set_getElem_self h1
  rw [hm]
  have hw := h.w
  have hr := h.r
  have hrow : (pvRows (acc.map encI))[k]? = some [.i x.op, .i x.n, .i x.rel] := by simp [pvRows, hx, encI, cI]
  have hlen : (pvRows (acc.map encI)).length = acc.length := by simp [pvRows]
  have hk : k < acc.length := (List.getElem?_eq_some_iff.1 hx).1
  have hk1 : (k : Int) < (acc.length : Int) := by omega
  have hset : (pvRows (acc.map encI)).set k [.i x.op, .i acc.length, .i x.rel] = pvRows ((acc.set k ⟨x.op, acc.length, x.rel⟩).map encI) := by simp [pvRows, List.map_set, encI, cI]
  have ht : ((k : Int)).toNat = k := Int.toNat_natCast k
  (refine ARun.intro Try.func46 rfl Try.call46 Try.ntmps46 Try.results46 ?_; simp only [List.length_cons, List.length_nil, List.length_map, Nat.reduceAdd, Nat.reduceSub, List.replicate_succ, List.replicate_zero, List.cons_append, List.nil_append])
  (have rr1 := dr46_0_X20n; have ww1 := hw; have ww2 := hr; have ww3 := hrow; have ww4 := hlen; have ww5 := hk; have ww6 := hk1; have ww7 := hset; have ww8 := ht; refine wkS ?_; clear rr1 ww1 ww2 ww3 ww4 ww5 ww6 ww7 ww8; (repeat' first | exact True.intro | refine Lf.mk ?_ ?_); all_goals intro hP)
  ((try simp only [go_sem, Nat.reduceAdd, Nat.reduceSub, Nat.reduceMul, Nat.reduceLeDiff, Nat.reduceLT, Nat.reduceEqDiff, Int.reduceToNat, Int.reduceAdd, Int.reduceMul, Int.reduceSub, Int.reduceLT, Int.reduceLE, Int.reduceEq, Int.reduceNeg, Int.reduceBEq, Int.reduceBNe, ↓reduceIte, reduceCtorEq]); (first | refine ⟨_, rfl, _, rfl, Fin.set0 1 ?_ ?_⟩ | refine ⟨_, rfl, _, rfl, Fin.set 1 ?_ ?_⟩))
  · exact under_pvRows _
  · simp [AV.low]
end Go.Proofs.Ytiifbdkedainnaa.Y

/- Regions that draw and write a slot behind its reading (printed by genA28.py out of A13, A14): operations read from R, in which such slots stand as before. -/
set_option linter.unusedVariables false
set_option linter.unusedSectionVars false
set_option linter.unusedSimpArgs false
namespace Go.Proofs.Ytiifbdkedainnaa.AL
variable [G : GTab]

/-- Who reads such a slot comes before who writes it. -/
def lateOk (l : List Oper) (tab : List (List Nat)) (sm : List Tmp) : Bool :=
  (List.range l.length).all fun i => match l[i]? with
    | some o => (opTmps l o).all fun t => !(sm.contains t) || (List.range l.length).all fun j => opDst l j != some t || j == i || (tab.getD j []).contains i
    | none => true
theorem lateOk_spec {l : List Oper} {tab : List (List Nat)} {sm : List Tmp} (h : lateOk l tab sm = true) : ∀ (i : Nat) (o : Oper), l[i]? = some o → ∀ t ∈ opTmps l o, t ∈ sm → ∀ j, j < l.length → opDst l j = some t → j = i ∨ i ∈ tab.getD j [] := by
  intro i o ho t ht hs j hj hd
  unfold lateOk at h
  simp only [List.all_eq_true, List.mem_range] at h
  have := h i (List.getElem?_eq_some_iff.1 ho).1
  rw [ho] at this
  simp only [List.all_eq_true, Bool.or_eq_true, Bool.not_eq_true', List.contains_iff_mem, List.mem_range, bne_iff_ne, beq_iff_eq] at this
  rcases this t ht with h1 | h1
  · have : sm.contains t = true := by simpa using hs
    rw [this] at h1; cases h1
  · rcases h1 j hj with (h2 | h2) | h2
    · exact absurd hd h2
    · exact .inl h2
    · exact .inr h2
/-- An operation comes to what is foretold: v to its slot, memory H'. -/
def OpGoodR (P : Program) (l : List Oper) (R T : List AV) (H : List AObj) (o : Oper) (H' : List AObj) : Prop :=
  match aWanted l R o with
  | some false => (∀ d, o.dst = some d → T[d]? = some (.tup [])) ∧ H' = H
  | some true => match aStep P R H o with
    | .next v H1 => (∀ d, o.dst = some d → T[d]? = some v) ∧ H' = H1
    | .run => aConcs R o = true ∧ ∃ r : Value, (∀ w, (execOp (aRho R) o).run P w = .ok (.value r) w) ∧ (∀ d, o.dst = some d → T[d]? = some (.ofV r)) ∧ H' = H
    | .enter f args => ∃ v, ARun P f args H (.ret v H') ∧ ∀ d, o.dst = some d → T[d]? = some v
    | .pan _ => False
  | none => False

/-- An operation that panics. -/
def PanGoodR (P : Program) (l : List Oper) (R T : List AV) (Q : AEx → List AV → List AObj → Prop) (H : List AObj) (o : Oper) : Prop :=
  match aWanted l R o with
  | some true => match aStep P R H o with
    | .pan x => ∀ tm', Q (.pan x) tm' H
    | .enter f args => ∃ x H', ARun P f args H (.pan x H') ∧ ∀ tm', Q (.pan x) tm' H'
    | _ => False
  | _ => False

/-- bad: the operations that panic; what stands behind them is never carried out. -/
def GoodFromR (P : Program) (l : List Oper) (R T : List AV) (Hs : List (List AObj)) (effs : List Nat) (wins : List (Nat × Nat)) (tab : List (List Nat)) (bad : List Nat) (Q : AEx → List AV → List AObj → Prop) : Nat → List Oper → Prop
  | _, [] => True
  | i, o :: rest => (if (bad.any fun b => (tab.getD i []).contains b) = true then True else if bad.contains i then
        (if effs.contains i then PanGoodR P l R T Q (Hs.getD (effs.idxOf i) []) o else ∀ j ∈ List.range' (wins.getD i (0, 0)).1 ((wins.getD i (0, 0)).2 + 1 - (wins.getD i (0, 0)).1), PanGoodR P l R T Q (Hs.getD j []) o)
      else if effs.contains i then OpGoodR P l R T (Hs.getD (effs.idxOf i) []) o (Hs.getD (effs.idxOf i + 1) []) else
      ∀ j ∈ List.range' (wins.getD i (0, 0)).1 ((wins.getD i (0, 0)).2 + 1 - (wins.getD i (0, 0)).1), OpGoodR P l R T (Hs.getD j []) o (Hs.getD j [])) ∧ GoodFromR P l R T Hs effs wins tab bad Q (i + 1) rest

theorem GoodFromR.get {P : Program} {l : List Oper} {R T : List AV} {Hs : List (List AObj)} {effs : List Nat} {wins : List (Nat × Nat)} {tab : List (List Nat)} {bad : List Nat} {Q : AEx → List AV → List AObj → Prop} : ∀ {i : Nat} {rest : List Oper}, GoodFromR P l R T Hs effs wins tab bad Q i rest →
    ∀ k o, rest[k]? = some o → (∀ b ∈ bad, b ∉ tab.getD (i + k) []) → (effs.contains (i + k) = true → if bad.contains (i + k) then PanGoodR P l R T Q (Hs.getD (effs.idxOf (i + k)) []) o else OpGoodR P l R T (Hs.getD (effs.idxOf (i + k)) []) o (Hs.getD (effs.idxOf (i + k) + 1) [])) ∧
      (effs.contains (i + k) = false → ∀ j, (wins.getD (i + k) (0, 0)).1 ≤ j → j ≤ (wins.getD (i + k) (0, 0)).2 → if bad.contains (i + k) then PanGoodR P l R T Q (Hs.getD j []) o else OpGoodR P l R T (Hs.getD j []) o (Hs.getD j []))
  | i, [], _, k, o, h, _ => by simp at h
  | i, x :: rest, g, k, o, h, hb => by
    obtain ⟨g1, g2⟩ := g
    cases k with
    | zero =>
      simp only [List.getElem?_cons_zero, Option.some.injEq] at h
      subst h
      simp only [Nat.add_zero] at hb ⊢
      rw [if_neg (by simp only [List.any_eq_true, List.contains_iff_mem, not_exists, not_and]; exact hb)] at g1
      constructor
      · intro hc
        split
        · rename_i hbc; rw [if_pos hbc, if_pos hc] at g1; exact g1
        · rename_i hbc; rw [if_neg hbc, if_pos hc] at g1; exact g1
      · intro hc j h1 h2
        have hm : j ∈ List.range' (wins.getD i (0, 0)).1 ((wins.getD i (0, 0)).2 + 1 - (wins.getD i (0, 0)).1) := by rw [List.mem_range'_1]; omega
        split
        · rename_i hbc; rw [if_pos hbc, if_neg (by rw [hc]; simp)] at g1; exact g1 j hm
        · rename_i hbc; rw [if_neg hbc, if_neg (by rw [hc]; simp)] at g1; exact g1 j hm
    | succ k =>
      simp only [List.getElem?_cons_succ] at h
      have := g2.get k o h (by rw [show i + 1 + k = i + (k + 1) by omega]; exact hb)
      rw [show i + 1 + k = i + (k + 1) by omega] at this
      exact this


section
variable {P : Program} {l : List Oper} {tab : List (List Nat)} {effs : List Nat} {wins : List (Nat × Nat)} {bad : List Nat} {T tm0 : List AV} {Hs : List (List AObj)}
  {w0 : World} {B0 : BMap} {S0 : Nat → Prop} {H0 : List AObj} {D : List Deferred} {Q : AEx → List AV → List AObj → Prop}
theorem opgood_opR {sm : List Tmp} {R : List AV} (hlate : lateOk l tab sm = true) (hR1 : ∀ t ∈ sm, R[t]? = tm0[t]?) (hR2 : ∀ t, t ∉ sm → R[t]? = T[t]?) {tm : List AV} {listed : Array Bool} {j : Nat} (hk : DOk l tab effs wins sm) (inv : DInv l tab effs T tm0 listed j tm) {i : Nat} {o : Oper} (hi : l[i]? = some o)
    (hnot : ¬ Lst listed i) (hanc : ∀ k ∈ tab.getD i [], Lst listed k) (hT : ∀ s, (∀ i, i < l.length → opDst l i ≠ some s) → T[s]? = tm0[s]?) :
    (∀ x ∈ o.op.operands, aev tm x = aev R x) ∧ aWanted l tm o = aWanted l R o := by
  have slot : ∀ t ∈ opTmps l o, tm[t]? = R[t]? := by
    intro t ht
    have hil : i < l.length := (List.getElem?_eq_some_iff.1 hi).1
    by_cases hs : t ∈ sm
    · rw [hR1 t hs]
      refine inv.rest t (fun k hk' hd' => ?_)
      have hlt : k < l.length := by
        unfold opDst at hd'
        cases hx : l[k]? with
        | none => rw [hx] at hd'; cases hd'
        | some o' => exact (List.getElem?_eq_some_iff.1 hx).1
      rcases lateOk_spec hlate i o hi t ht hs k hlt hd' with he | hm
      · subst he; exact hnot hk'
      · exact hnot (inv.closed k hk' i hm)
    · rw [hR2 t hs]
      by_cases hw : ∃ k, k < l.length ∧ opDst l k = some t
      · obtain ⟨k, hk1, hk2⟩ := hw
        rcases hk.tmps i o hi t ht k hk1 hk2 with hm | hm
        · exact inv.done k t (hanc k hm) hk2
        · exact absurd hm hs
      · have h1 : ∀ k, k < l.length → opDst l k ≠ some t := fun k hk1 hk2 => hw ⟨k, hk1, hk2⟩
        rw [hT t h1]
        refine inv.rest t (fun k _ hk2 => ?_)
        have : k < l.length := by
          unfold opDst at hk2
          cases hx : l[k]? with
          | none => rw [hx] at hk2; cases hk2
          | some o' => exact (List.getElem?_eq_some_iff.1 hx).1
        exact h1 k this hk2
  constructor
  · intro x hx
    refine aev_congr (fun t e => slot t ?_)
    subst e
    unfold opTmps
    exact List.mem_append_left _ (List.mem_filterMap.2 ⟨.tmp t, by simpa using hx, rfl⟩)
  · unfold aWanted
    cases hg : o.guard with
    | none => rfl
    | some jw =>
      obtain ⟨g, want⟩ := jw
      simp only
      cases hd : (l[g]?).bind (·.dst) with
      | none => rfl
      | some d =>
        simp only
        rw [slot d ?_]
        unfold opTmps
        refine List.mem_append_right _ ?_
        rw [hg]
        simp only [opDst, hd, Option.toList_some, List.mem_singleton]

theorem draw_auxR {sm : List Tmp} {R : List AV} (hlate : lateOk l tab sm = true) (hR1 : ∀ t ∈ sm, R[t]? = tm0[t]?) (hR2 : ∀ t, t ∉ sm → R[t]? = T[t]?) (hk : DOk l tab effs wins sm) (hbad : ∀ b ∈ bad, b < l.length) (good : GoodFromR P l R T Hs effs wins tab bad Q 0 l) (hT : ∀ s, (∀ i, i < l.length → opDst l i ≠ some s) → T[s]? = tm0[s]?) (hTl : T.length = tm0.length)
    (hQ : bad = [] → Q .normal T (Hs.getD effs.length [])) : ∀ (fuel : Nat) (listed : Array Bool) (j : Nat) (tm : List AV) (a : Act) (w : World) (B : BMap) (S : Nat → Prop),
      DInv l tab effs T tm0 listed j tm → (∀ b ∈ bad, ¬ Lst listed b) → Sim w0 B0 S0 H0 D tm (Hs.getD j []) a w B S → ((List.range l.length).filter fun i => !listed.getD i false).length ≤ fuel →
      wpAny P .any l.toArray (LiftQ w0 B0 S0 H0 D Q) fuel listed a w := by
  have atEnd : ∀ (listed : Array Bool) (j : Nat) (tm : List AV) (a : Act) (w : World) (B : BMap) (S : Nat → Prop), DInv l tab effs T tm0 listed j tm → (∀ b ∈ bad, ¬ Lst listed b) → Sim w0 B0 S0 H0 D tm (Hs.getD j []) a w B S →
      (∀ i, i < l.length → Lst listed i) → LiftQ w0 B0 S0 H0 D Q .normal a w := by
    intro listed j tm a w B S inv hnb s hall
    have hbn : bad = [] := by
      cases hb : bad with
      | nil => rfl
      | cons b bs => exact absurd (hall b (hbad b (by rw [hb]; simp))) (hnb b (by rw [hb]; simp))
    have hj : j = effs.length := by
      rcases Nat.lt_or_ge j effs.length with h | h
      · exfalso
        have hm : effs[j] ∈ effs := List.getElem_mem h
        have := (inv.ef _ hm).1 (hall _ (hk.lt _ hm))
        obtain ⟨k, hk1, hk2⟩ := List.mem_take_iff_getElem.1 this
        have := (List.getElem_inj hk.nodup).1 hk2
        omega
      · have := inv.jle; omega
    subst hj
    have htm : tm = T := by
      apply List.ext_getElem?
      intro d
      by_cases hw : ∃ k, k < l.length ∧ opDst l k = some d
      · obtain ⟨k, hk1, hk2⟩ := hw
        exact inv.done k d (hall k hk1) hk2
      · rw [hT d (fun k hk1 hk2 => hw ⟨k, hk1, hk2⟩)]
        refine inv.rest d (fun k _ hk2 => ?_)
        have : k < l.length := by
          unfold opDst at hk2
          cases hx : l[k]? with
          | none => rw [hx] at hk2; cases hk2
          | some o' => exact (List.getElem?_eq_some_iff.1 hx).1
        exact hw ⟨k, this, hk2⟩
    subst htm
    exact ⟨.normal, tm, _, B, S, hQ hbn, s, trivial⟩
  intro fuel
  induction fuel with
  | zero =>
    intro listed j tm a w B S inv hnb s hf
    have hall : ∀ i, i < l.length → Lst listed i := by
      intro i hi
      have hnil : ((List.range l.length).filter fun i => !listed.getD i false) = [] := List.eq_nil_of_length_eq_zero (by omega)
      rw [List.filter_eq_nil_iff] at hnil
      have := hnil i (by simpa using hi)
      simpa [Lst] using this
    refine ⟨?_, atEnd listed j tm a w B S inv hnb s hall⟩
    cases hr : Region.ready .any l.toArray listed with
    | nil => rfl
    | cons i rs =>
      exfalso
      have hm : i ∈ Region.ready .any l.toArray listed := by rw [hr]; simp
      obtain ⟨h1, h2, _⟩ := mem_ready' hm
      have := hall i h2
      unfold Lst at this
      simp only [Array.getD_eq_getD_getElem?] at this h1
      have hlt : i < listed.size := by rw [inv.size]; exact h2
      simp only [Array.getElem?_eq_getElem hlt, Option.getD_some] at this h1
      rw [this] at h1; cases h1
  | succ fuel ih =>
    intro listed j tm a w B S inv hnb s hf
    refine ⟨fun hr => atEnd listed j tm a w B S inv hnb s (ready_of hk inv.size hr), ?_⟩
    intro i hi
    obtain ⟨hun, hil, haft⟩ := mem_ready' hi
    have hlt : i < listed.size := by rw [inv.size]; exact hil
    have hnot : ¬ Lst listed i := by
      unfold Lst
      simp only [Array.getD_eq_getD_getElem?, Array.getElem?_eq_getElem hlt, Option.getD_some] at hun ⊢
      rw [hun]; simp
    obtain ⟨o, ho⟩ : ∃ o, l[i]? = some o := ⟨l[i], List.getElem?_eq_getElem hil⟩
    have hanc : ∀ k ∈ tab.getD i [], Lst listed k := by
      intro k hk'
      obtain ⟨e, he, hke⟩ := hk.anc i hil k hk'
      rcases hke with rfl | hke
      · exact haft k he
      · exact inv.closed e (haft e he) k hke
    obtain ⟨hev, hwant⟩ := opgood_opR hlate hR1 hR2 hk inv ho hnot hanc hT
    -- the next stage
    have hnanc : ∀ b ∈ bad, b ∉ tab.getD (0 + i) [] := by intro b hb hm; rw [Nat.zero_add] at hm; exact hnb b hb (hanc b hm)
    have hoi : (l.toArray)[i]? = some o := by simpa using ho
    by_cases hib : bad.contains i = true
    · have hpan : PanGoodR P l R T Q (Hs.getD j []) o := by
        obtain ⟨g1, g2⟩ := good.get i o ho hnanc
        simp only [Nat.zero_add, hib, if_true] at g1 g2
        by_cases hie : i ∈ effs
        · have hidx : effs.idxOf i < effs.length := List.idxOf_lt_length_of_mem hie
          have hix : effs[effs.idxOf i] = i := List.getElem_idxOf hidx
          have hle : effs.idxOf i ≤ j := by
            rcases Nat.lt_or_ge j (effs.idxOf i) with h | h
            · exfalso
              have hjl : j < effs.length := by omega
              have hm : effs[j] ∈ effs.take (effs.idxOf i) := List.mem_take_iff_getElem.2 ⟨j, by omega, rfl⟩
              have h1 := hanc _ (hk.ord i hil hie _ hm)
              have h2 := (inv.ef _ (List.getElem_mem hjl)).1 h1
              obtain ⟨k, hk1, hk2⟩ := List.mem_take_iff_getElem.1 h2
              have := (List.getElem_inj hk.nodup).1 hk2
              omega
            · exact h
          have hge : j ≤ effs.idxOf i := by
            rcases Nat.lt_or_ge (effs.idxOf i) j with h | h
            · exfalso
              exact hnot ((inv.ef i hie).2 (List.mem_take_iff_getElem.2 ⟨effs.idxOf i, by omega, hix⟩))
            · exact h
          have hje : j = effs.idxOf i := by omega
          have := g1 (by simpa using hie)
          rw [← hje] at this; exact this
        · refine g2 (by simpa using hie) j ?_ ?_
          · rw [hk.win i hil]
            refine filter_len hk.nodup (fun e he hc => ?_)
            exact (inv.ef e he).1 (hanc e (by simpa using hc))
          · rw [hk.win i hil]
            rcases Nat.lt_or_ge (winHi tab effs i) j with h | h
            · exfalso
              obtain ⟨e, he, hpe⟩ := takeWhile_len (p := fun e => !(tab.getD e []).contains i) effs j h inv.jle
              have hee : e ∈ effs := List.mem_of_mem_take he
              have h1 := (inv.ef e hee).2 he
              have h2 : i ∈ tab.getD e [] := by simpa using hpe
              exact hnot (inv.closed e h1 i h2)
            · exact h
      unfold wpOp
      rw [hoi]
      simp only
      unfold PanGoodR at hpan
      cases hw : aWanted l R o with
      | none => rw [hw] at hpan; exact hpan.elim
      | some b =>
        rw [hw] at hpan
        rw [s.wanted (hwant.trans hw)]
        cases b with
        | false => exact hpan.elim
        | true =>
          simp only at hpan
          simp only [if_true]
          refine .inl ?_
          have hstep : aStep P tm (Hs.getD j []) o = aStep P R (Hs.getD j []) o := aStep_congr hev
          cases hs : aStep P R (Hs.getD j []) o with
          | next v H1 => rw [hs] at hpan; exact hpan.elim
          | run => rw [hs] at hpan; exact hpan.elim
          | pan x =>
            rw [hs] at hpan
            simp only at hpan
            obtain ⟨v, hrun, hx⟩ := step_pan s (hstep.trans hs)
            unfold Oper.wp
            rw [hrun]
            exact ⟨.pan x, tm, _, B, S, hpan tm, s, v, rfl, hx⟩
          | enter f args =>
            rw [hs] at hpan
            simp only at hpan
            obtain ⟨x, H', ⟨hcall, hrunA⟩, hq⟩ := hpan
            obtain ⟨vs, hrun, hargs⟩ := enter_args s (hstep.trans hs) hcall
            unfold Oper.wp
            rw [hrun]
            refine (hrunA w B S vs s.hrel hargs).mono (fun e w' hew => ?_)
            obtain ⟨B', S', st, hr, he⟩ := hew
            cases e with
            | returned v => exact he.elim
            | panicked c => exact ⟨.pan x, tm, H', B', S', hq tm, s.mono st hr, he⟩
            | outgrown => exact he.elim
    obtain ⟨j', hj', hgood, hef'⟩ : ∃ j', j' ≤ effs.length ∧ OpGoodR P l R T (Hs.getD j []) o (Hs.getD j' []) ∧ (∀ e ∈ effs, (e = i ∨ Lst listed e ↔ e ∈ effs.take j')) := by
      obtain ⟨g1, g2⟩ := good.get i o ho hnanc
      simp only [Nat.zero_add] at g1 g2
      simp only [if_neg hib] at g1 g2
      by_cases hie : i ∈ effs
      · have hidx : effs.idxOf i < effs.length := List.idxOf_lt_length_of_mem hie
        have hix : effs[effs.idxOf i] = i := List.getElem_idxOf hidx
        have hle : effs.idxOf i ≤ j := by
          rcases Nat.lt_or_ge j (effs.idxOf i) with h | h
          · exfalso
            have hjl : j < effs.length := by omega
            have hm : effs[j] ∈ effs.take (effs.idxOf i) := List.mem_take_iff_getElem.2 ⟨j, by omega, rfl⟩
            have h1 := hanc _ (hk.ord i hil hie _ hm)
            have h2 := (inv.ef _ (List.getElem_mem hjl)).1 h1
            obtain ⟨k, hk1, hk2⟩ := List.mem_take_iff_getElem.1 h2
            have := (List.getElem_inj hk.nodup).1 hk2
            omega
          · exact h
        have hge : j ≤ effs.idxOf i := by
          rcases Nat.lt_or_ge (effs.idxOf i) j with h | h
          · exfalso
            exact hnot ((inv.ef i hie).2 (List.mem_take_iff_getElem.2 ⟨effs.idxOf i, by omega, hix⟩))
          · exact h
        have hje : j = effs.idxOf i := by omega
        refine ⟨j + 1, by omega, ?_, ?_⟩
        · have := g1 (by simpa using hie)
          rw [← hje] at this; exact this
        · intro e he
          have hjl : j < effs.length := by omega
          have htake : effs.take (j + 1) = effs.take j ++ [i] := by
            rw [List.take_succ_eq_append_getElem hjl]
            congr 2
            have : effs[j] = effs[effs.idxOf i] := by congr 1
            rw [this, hix]
          rw [htake, List.mem_append, List.mem_singleton, inv.ef e he, Or.comm]
      · refine ⟨j, inv.jle, ?_, ?_⟩
        · refine g2 (by simpa using hie) j ?_ ?_
          · rw [hk.win i hil]
            refine filter_len hk.nodup (fun e he hc => ?_)
            exact (inv.ef e he).1 (hanc e (by simpa using hc))
          · rw [hk.win i hil]
            rcases Nat.lt_or_ge (winHi tab effs i) j with h | h
            · exfalso
              obtain ⟨e, he, hpe⟩ := takeWhile_len (p := fun e => !(tab.getD e []).contains i) effs j h inv.jle
              have hee : e ∈ effs := List.mem_of_mem_take he
              have h1 := (inv.ef e hee).2 he
              have h2 : i ∈ tab.getD e [] := by simpa using hpe
              exact hnot (inv.closed e h1 i h2)
            · exact h
        · intro e he
          rw [← inv.ef e he]
          constructor
          · rintro (rfl | h)
            · exact absurd he hie
            · exact h
          · exact .inr
    -- the state behind it
    have next : ∀ (v : AV), (∀ d, o.dst = some d → T[d]? = some v) → DInv l tab effs T tm0 (listed.setIfInBounds i true) j' (aput tm o.dst v) := by
      intro v hv
      have hdi : opDst l i = o.dst := by unfold opDst; rw [ho]; rfl
      refine ⟨by simpa using inv.size, ?_, ?_, hj', ?_, ?_, ?_⟩
      · intro k hk1 k' hk2
        rw [lst_set hlt] at hk1 ⊢
        rcases hk1 with rfl | hk1
        · exact .inr (hanc k' hk2)
        · exact .inr (inv.closed k hk1 k' hk2)
      · intro e he
        rw [lst_set hlt]
        exact hef' e he
      · cases o.dst <;> simp [aput, inv.len]
      · intro k d hk1 hd
        rw [lst_set hlt] at hk1
        cases hod : o.dst with
        | none =>
          simp only [aput]
          rcases hk1 with rfl | hk1
          · rw [hdi, hod] at hd; cases hd
          · exact inv.done k d hk1 hd
        | some d' =>
          simp only [aput]
          by_cases e : d' = d
          · subst e
            have hTd := hv d' hod
            rw [hTd]
            have : d' < tm.length := by rw [inv.len, ← hTl]; exact (List.getElem?_eq_some_iff.1 hTd).1
            simp [this]
          · rw [List.getElem?_set, if_neg e]
            rcases hk1 with rfl | hk1
            · rw [hdi, hod] at hd; simp only [Option.some.injEq] at hd; exact absurd hd e
            · exact inv.done k d hk1 hd
      · intro d hd
        have h1 : o.dst ≠ some d := by
          have := hd i ((lst_set hlt).2 (.inl rfl))
          rwa [hdi] at this
        have h2 : ∀ k, Lst listed k → opDst l k ≠ some d := fun k hk' => hd k ((lst_set hlt).2 (.inr hk'))
        cases hod : o.dst with
        | none => simp only [aput]; exact inv.rest d h2
        | some d' =>
          simp only [aput]
          rw [List.getElem?_set, if_neg (fun e => h1 (by rw [hod, e]))]
          exact inv.rest d h2
    have hfuel : ((List.range l.length).filter fun k => !(listed.setIfInBounds i true).getD k false).length ≤ fuel := by
      have hsub : ((List.range l.length).filter fun k => !(listed.setIfInBounds i true).getD k false) = ((List.range l.length).filter fun k => !listed.getD k false).filter (fun k => k != i) := by
        rw [List.filter_filter]
        apply List.filter_congr
        intro k hk'
        have := lst_set (listed := listed) (i := i) (k := k) hlt
        unfold Lst at this
        by_cases e : k = i
        · subst e
          have h := this.2 (.inl rfl)
          rw [h]; simp
        · have h : (listed.setIfInBounds i true).getD k false = listed.getD k false := by
            rw [Bool.eq_iff_iff, this]
            constructor
            · rintro (h | h)
              · exact absurd h e
              · exact h
            · exact .inr
          rw [h]; simp [e]
      rw [hsub]
      have hmem : i ∈ (List.range l.length).filter fun k => !listed.getD k false := by
        rw [List.mem_filter]
        refine ⟨by simpa using hil, ?_⟩
        unfold Lst at hnot
        simpa using hnot
      have hlt' : (((List.range l.length).filter fun k => !listed.getD k false).filter (fun k => k != i)).length < ((List.range l.length).filter fun k => !listed.getD k false).length := by
        apply List.length_filter_lt_length_iff_exists.2
        exact ⟨i, hmem, by simp⟩
      omega
    have go : ∀ (v : AV) (x : Value) (w' : World) (B' : BMap) (S' : Nat → Prop), (∀ d, o.dst = some d → T[d]? = some v) → Sim w0 B0 S0 H0 D tm (Hs.getD j' []) a w' B' S' → ARel w' B' S' (Hs.getD j' []) v x →
        wpAny P .any l.toArray (LiftQ w0 B0 S0 H0 D Q) fuel (listed.setIfInBounds i true) (a.put o.dst x) w' := by
      intro v x w' B' S' hv s' hx
      refine ih _ j' _ _ _ _ _ (next v hv) (fun b hb hl => ?_) (s'.put o.dst hx) hfuel
      rw [lst_set hlt] at hl
      rcases hl with rfl | hl
      · exact hib (by simpa using hb)
      · exact hnb b hb hl
    unfold wpOp
    rw [hoi]
    simp only
    unfold OpGoodR at hgood
    cases hw : aWanted l R o with
    | none => rw [hw] at hgood; exact hgood.elim
    | some b =>
      rw [hw] at hgood
      rw [s.wanted (hwant.trans hw)]
      cases b with
      | false =>
        simp only at hgood
        simp only [Bool.false_eq_true, if_false]
        obtain ⟨h1, h2⟩ := hgood
        exact go (.tup []) undef w B S h1 (by rw [h2]; exact s) (by rw [h2]; exact undef_rel)
      | true =>
        simp only at hgood
        simp only [if_true]
        refine .inl ?_
        have hstep : aStep P tm (Hs.getD j []) o = aStep P R (Hs.getD j []) o := aStep_congr hev
        cases hs : aStep P R (Hs.getD j []) o with
        | next v H1 =>
          rw [hs] at hgood
          simp only at hgood
          obtain ⟨h1, h2⟩ := hgood
          obtain ⟨r, w', B', S', hrun, st, hr, hv⟩ := step_next s.hrel s.ev (hstep.trans hs)
          rw [← h2] at st hr hv
          have s' := s.mono st hr
          unfold Oper.wp
          rcases hrun with hrun | ⟨hrun, rfl⟩
          · rw [hrun]; exact go v r w' B' S' h1 s' hv
          · rw [hrun]; exact go v undef w' B' S' h1 s' hv
        | pan x => rw [hs] at hgood; exact hgood.elim
        | enter f args =>
          rw [hs] at hgood
          simp only at hgood
          obtain ⟨v, ⟨hcall, hrunA⟩, h1⟩ := hgood
          obtain ⟨vs, hrun, hargs⟩ := enter_args s (hstep.trans hs) hcall
          unfold Oper.wp
          rw [hrun]
          refine (hrunA w B S vs s.hrel hargs).mono (fun e w' hew => ?_)
          obtain ⟨B', S', st, hr, he⟩ := hew
          cases e with
          | returned x => exact go v x w' B' S' h1 (s.mono st hr) he
          | panicked c => exact he.elim
          | outgrown => exact he.elim
        | run =>
          rw [hs] at hgood
          simp only at hgood
          obtain ⟨hc, r, hrun, h1, h2⟩ := hgood
          have hsel := hk.sel i o ho
          rcases aConcs_congr (tm := tm) (tm' := R) hev with ⟨e1, e2⟩ | e
          · have heq : execOp a.eval o = execOp (aRho tm) o := run_eq s (by rw [e1]; exact hc) hsel
            unfold Oper.wp
            rw [heq, e2, hrun w]
            exact go (.ofV r) r w B S h1 (by rw [h2]; exact s) (by rw [h2]; exact .ofV r)
          · rw [hsel] at e; cases e
end
section
variable {P : Program} {w0 : World} {B0 : BMap} {S0 : Nat → Prop} {H0 : List AObj} {D : List Deferred} {Q : AEx → List AV → List AObj → Prop} {tm : List AV} {H : List AObj} {a : Act} {w : World} {B : BMap} {S : Nat → Prop}
theorem awp_drawBR {id : Nat} {l : List Oper} {R T : List AV} (effs bad : List Nat) (wins : List (Nat × Nat)) (Hs : List (List AObj)) (hm : P.follows .mixedOrders = true)
    (sm : List Tmp) (hok : drawOk l (ancTab l) effs wins sm = true) (hlate : lateOk l (ancTab l) sm = true) (hR1 : ∀ t ∈ sm, R[t]? = tm[t]?) (hR2 : ∀ t, t ∉ sm → R[t]? = T[t]?) (hbad : ∀ b ∈ bad, b < l.length)
    (hlen : T.length = tm.length) (hne : ∀ s, (∀ o ∈ l, o.dst ≠ some s) → T[s]? = tm[s]?)
    (hH : Hs.getD 0 [] = H) (good : GoodFromR P l R T Hs effs wins (ancTab l) bad Q 0 l)
    (hQ : bad = [] → Q .normal T (Hs.getD effs.length [])) : AWP P H0 (.region id l.toArray true) Q tm H := by
  intro w0 B0 S0 D a w B S s
  subst hH
  have hk := drawOk_spec hok
  refine wp_region_any hm ?_
  have hT : ∀ s, (∀ i, i < l.length → opDst l i ≠ some s) → T[s]? = tm[s]? := by
    intro s hs
    refine hne s (fun o ho hd => ?_)
    obtain ⟨i, hi, rfl⟩ := List.mem_iff_getElem.1 ho
    exact hs i hi (by unfold opDst; rw [List.getElem?_eq_getElem hi]; exact hd)
  have hnone : ∀ i, ¬ Lst (Array.replicate l.length false) i := by
    intro i hi
    unfold Lst at hi
    simp only [Array.getD_eq_getD_getElem?, Array.getElem?_replicate] at hi
    split at hi <;> simp at hi
  have := draw_auxR (P := P) (w0 := w0) (B0 := B0) (S0 := S0) (H0 := H0) (D := D) (Q := Q) (tm0 := tm) (bad := bad) (sm := sm) hlate hR1 hR2 hk hbad good hT hlen hQ l.length (Array.replicate l.length false) 0 tm a { w with drawn := w.drawn + 1 } B S
    ⟨by simp, fun i hi => absurd hi (hnone i), fun e _ => by simp [hnone e], Nat.zero_le _, rfl, fun i d hi => absurd hi (hnone i), fun d _ => rfl⟩ (fun b _ => hnone b) s.drawn
    (by exact Nat.le_trans (List.length_filter_le _ _) (by simp))
  simpa using this

def OGXR (P : Program) (R T : List AV) (o : Oper) (H H' : List AObj) : Prop := aConcs R o = true ∧ ∃ r : Value, (∀ w, (execOp (aRho R) o).run P w = .ok (.value r) w) ∧ DstIs T o.dst (.ofV r) ∧ H' = H
def OGRR (P : Program) (R T : List AV) (o : Oper) (H H' : List AObj) : ARes → Prop
  | .next v H1 => DstIs T o.dst v ∧ H' = H1
  | .run => OGXR P R T o H H'
  | .enter f args => OGE P T o.dst H H' f args
  | .pan _ => False
def OGWR (P : Program) (R T : List AV) (o : Oper) (H H' : List AObj) : Option Bool → Prop
  | some true => OGRR P R T o H H' (aStep P R H o)
  | some false => DstIs T o.dst (.tup []) ∧ H' = H
  | none => False
theorem opGoodR_of {l : List Oper} {R T : List AV} {H H' : List AObj} {o : Oper} (h : OGWR P R T o H H' (aWanted l R o)) : OpGoodR P l R T H o H' := by
  unfold OpGoodR
  cases hw : aWanted l R o with
  | none => rw [hw] at h; exact h
  | some b =>
    rw [hw] at h
    cases b with
    | false => exact ⟨h.1.all, h.2⟩
    | true =>
      simp only [OGWR] at h ⊢
      cases hs : aStep P R H o with
      | next v H1 => rw [hs] at h; exact ⟨h.1.all, h.2⟩
      | run => rw [hs] at h; obtain ⟨h1, r, h2, h3, h4⟩ := h; exact ⟨h1, r, h2, h3.all, h4⟩
      | enter f args => rw [hs] at h; obtain ⟨v, h1, h2⟩ := h; exact ⟨v, h1, h2.all⟩
      | pan x => rw [hs] at h; exact h
theorem panGoodR_of {l : List Oper} {R T : List AV} {H : List AObj} {o : Oper} (h : PGW P R Q H o (aWanted l R o)) : PanGoodR P l R T Q H o := by
  unfold PanGoodR
  cases hw : aWanted l R o with
  | none => rw [hw] at h; exact h
  | some b =>
    rw [hw] at h
    cases b with
    | false => exact h
    | true =>
      simp only [PGW] at h ⊢
      cases hs : aStep P R H o with
      | enter f args => rw [hs] at h; exact h
      | pan x => rw [hs] at h; exact h
      | _ => rw [hs] at h; exact h

def GoodPR (P : Program) (l : List Oper) (R T : List AV) (Q : AEx → List AV → List AObj → Prop) (Hs : List (List AObj)) : List OpPlan → List Oper → Prop
  | .skip :: ps, _ :: rest => GoodPR P l R T Q Hs ps rest
  | .pan js :: ps, o :: rest => AllAt Hs (fun H => PGW P R Q H o (aWanted l R o)) js ∧ GoodPR P l R T Q Hs ps rest
  | .eff j :: ps, o :: rest => OGWR P R T o (Hs.getD j []) (Hs.getD (j + 1) []) (aWanted l R o) ∧ GoodPR P l R T Q Hs ps rest
  | .win js :: ps, o :: rest => AllAt Hs (fun H => OGWR P R T o H H (aWanted l R o)) js ∧ GoodPR P l R T Q Hs ps rest
  | _, _ => True

theorem GoodPR.from {l : List Oper} {R T : List AV} {Hs : List (List AObj)} {tab : List (List Nat)} {effs : List Nat} {wins : List (Nat × Nat)} {bad : List Nat} : ∀ {rest : List Oper} {i : Nat},
    GoodPR P l R T Q Hs (planFrom tab effs wins bad i rest.length) rest → GoodFromR P l R T Hs effs wins tab bad Q i rest
  | [], i, _ => trivial
  | o :: rest, i, h => by
    simp only [List.length_cons, planFrom] at h
    unfold GoodFromR
    unfold planAt at h
    split at h
    · rename_i hb
      exact ⟨by rw [if_pos hb]; trivial, GoodPR.from h⟩
    · rename_i hb
      rw [if_neg hb]
      split at h
      · rename_i hc
        rw [if_pos hc]
        refine ⟨?_, GoodPR.from h.2⟩
        split
        · rename_i he
          rw [if_pos he] at h
          exact panGoodR_of h.1.1
        · rename_i he
          rw [if_neg he] at h
          exact fun j hj => panGoodR_of (h.1.get j hj)
      · rename_i hc
        rw [if_neg hc]
        split at h
        · rename_i he
          rw [if_pos he]
          exact ⟨opGoodR_of h.1, GoodPR.from h.2⟩
        · rename_i he
          rw [if_neg he]
          exact ⟨fun j hj => opGoodR_of (h.1.get j hj), GoodPR.from h.2⟩


/-- The slots of a list as they were. -/
def backS : List Tmp → List AV → List AV → List AV
  | [], _, T => T
  | t :: r, tm, T => backS r tm (T.set t ((tm[t]?).getD .any))
theorem backS_ne : ∀ (sm : List Tmp) (tm T : List AV) (t : Tmp), t ∉ sm → (backS sm tm T)[t]? = T[t]?
  | [], _, _, _, _ => rfl
  | s :: r, tm, T, t, h => by
    simp only [List.mem_cons, not_or] at h
    rw [backS, backS_ne r tm _ t h.2, List.getElem?_set, if_neg (fun e => h.1 e.symm)]
theorem backS_len : ∀ (sm : List Tmp) (tm T : List AV), (backS sm tm T).length = T.length
  | [], _, _ => rfl
  | s :: r, tm, T => by rw [backS, backS_len r]; simp
theorem backS_get : ∀ (sm : List Tmp) (tm T : List AV), T.length = tm.length → ∀ t ∈ sm, (backS sm tm T)[t]? = tm[t]?
  | [], _, _, _, t, h => by cases h
  | s :: r, tm, T, hl, t, h => by
    by_cases hr : t ∈ r
    · rw [backS]; exact backS_get r tm _ (by simpa using hl) t hr
    · rcases List.mem_cons.1 h with rfl | h
      · rw [backS, backS_ne r tm _ t hr]
        rcases Nat.lt_or_ge t tm.length with hlt | hge
        · rw [List.getElem?_set, if_pos rfl, if_pos (by omega), List.getElem?_eq_getElem hlt]; rfl
        · rw [List.getElem?_eq_none (by simp; omega), List.getElem?_eq_none hge]
      · exact absurd h hr
/-- The same, as a rule. -/
theorem awp_drawnR_k {id : Nat} {l : List Oper} (effs bad : List Nat) (plan : List OpPlan) (ne : Nat) (sm : List Tmp) (hm : P.follows .mixedOrders = true)
    (hok : (drawOk l (ancTab l) effs (winsOf l effs) sm && lateOk l (ancTab l) sm && bad.all (· < l.length) && decide (planOf l effs bad = plan) && effs.length == ne) = true)
    (h : ∀ (Kn : List AV → List AObj → Prop) (Kp : AV → List AV → List AObj → Prop), (∀ tm H, Q .normal tm H → Kn tm H) → (∀ x tm H, Q (.pan x) tm H → Kp x tm H) →
      AWSeq P l (fun T H' Hs => Hs.getD 0 [] = H ∧ GoodPR P l (backS sm tm T) T (AEx.two Kn Kp) Hs plan l ∧ (bad = [] → Kn T (Hs.getD ne []))) plan l tm H [H]) : AWP P H0 (.region id l.toArray true) Q tm H := by
  simp only [Bool.and_eq_true, List.all_eq_true, decide_eq_true_eq, beq_iff_eq] at hok
  obtain ⟨⟨⟨⟨hok, hlate⟩, hbad⟩, rfl⟩, rfl⟩ := hok
  refine awp_mono (Q := AEx.two (Q .normal) (fun x => Q (.pan x))) ?_ ?_
  · obtain ⟨T, H', Hs, h1, h2, h3, h4, h5⟩ := (h (Q .normal) (fun x => Q (.pan x)) (fun _ _ h => h) (fun _ _ _ h => h)).out
    exact awp_drawBR effs bad _ Hs hm sm hok hlate (backS_get sm tm T h1) (fun t ht => backS_ne sm tm T t ht) hbad h1 h2 h3 (GoodPR.from h4) h5
  · intro e tm H hq
    cases e <;> first | exact hq | exact hq.elim
end
attribute [go_sem] GoodPR OGRR OGWR backS
end Go.Proofs.Ytiifbdkedainnaa.AL

/- A row of one's own that is returned. -/
set_option linter.unusedVariables false
namespace Go.Proofs.Ytiifbdkedainnaa.AL
variable [G : GTab]
set_option linter.unusedSectionVars false
theorem pvRows_app (a b : List (List PV)) : pvRows a ++ pvRows b = pvRows (a ++ b) := by simp [pvRows]
theorem pvRows_one (r : List PV) : [r.map AV.pv] = pvRows [r] := rfl
theorem toPV_os {H L : List AObj} {k t sz n d : Nat} {rows : List (List PV)} (h : L[k]? = some (.arr t sz (pvRows rows))) (hn : rows.length = n) :
    (AV.os (H.length + k) 0 n n).toPV (H ++ L) H.length (d + 1) = some (.rs sz rows) := by
  subst hn
  simp only [AV.toPV, List.getElem?_append_right (Nat.le_add_right _ _), Nat.add_sub_cancel_left, h, pvRows_len, Nat.le_add_right, and_self, if_true, List.drop_zero]
  rw [List.take_of_length_le (by rw [pvRows_len]; exact Nat.le_refl _)]
  unfold pvRows
  rw [toPVs_pvs]
  rfl
theorem toPV_os0 {H L : List AObj} {t sz n d : Nat} {rows : List (List PV)} (hn : rows.length = n) :
    (AV.os H.length 0 n n).toPV (H ++ .arr t sz (pvRows rows) :: L) H.length (d + 1) = some (.rs sz rows) :=
  toPV_os (k := 0) rfl hn
theorem Fin.pureC0 {H0 : List AObj} {v v2 : AV} (k : Nat) (h : Cv (v.low H0 H0.length k) v2) : Fin H0 H0 v H0 v2 := by
  have := Fin.pureC (H0 := H0) (L := []) (v := v) (v2 := v2) k (by simpa using h)
  simpa using this
end Go.Proofs.Ytiifbdkedainnaa.AL

set_option maxHeartbeats 8000000
set_option maxRecDepth 100000
set_option linter.unusedVariables false
set_option linter.unusedSimpArgs false
set_option linter.unusedSectionVars false
namespace Go.Proofs.Ytiifbdkedainnaa.Y
open Go.Proofs.Ytiifbdkedainnaa.AL Go.Proofs Go
attribute [local irreducible] AWP AWL AWG AWR AWE AWX AWO AWSeq AWSG AWSR AWSO AWSE AWSF GoodP OGW OGR OGE OGX PGW PGR PGE Wk AWLoop AWPD AWLD

theorem ROp9_run (op : Int) (h : 4 ≤ op ∧ op ≤ 10) (H0 : List AObj) : ARun Try.prog 63 [.i op] H0 (.ret (.i op) H0) := by
  have h' : op = 4 ∨ op = 5 ∨ op = 6 ∨ op = 7 ∨ op = 8 ∨ op = 9 ∨ op = 10 := by omega
  rcases h' with rfl | rfl | rfl | rfl | rfl | rfl | rfl
  all_goals
    (refine ARun.intro Try.func63 rfl Try.call63 Try.ntmps63 Try.results63 ?_; simp only [List.length_cons, List.length_nil, List.length_map, Nat.reduceAdd, Nat.reduceSub, List.replicate_succ, List.replicate_zero, List.cons_append, List.nil_append])
    (refine wk ?_; (repeat' first | exact True.intro | refine Lf.mk ?_ ?_); all_goals intro hP)
    (refine resX ?_; try exact True.intro)
theorem RExpr9_run {vs : List Un} (e : Ex) : ∀ u, inf vs e = .ok u → nodes e ≤ 1000000000 → ∀ (H0 : List AObj),
    ARun Try.prog 47 [.ag (cE e)] H0 (.ret (.rs 3 ((codeE e).map encI)) H0) := by
  induction e using Ex.ind with
  | h e ih =>
    intro u hu hlen H0
    rcases inf_grants hu with ⟨hk, hop⟩ | ⟨a, b, x, y, hk, h1, h2, ha, hb0⟩
    · obtain ⟨op, n, un, kids⟩ := e
      simp only [Ex.kids, Ex.op, Ex.n, Ex.unit] at *
      subst hk
      have hc : codeE (.mk op n un []) = [⟨op, n, 0⟩] := by simp [codeE]
      rw [hc]
      have hop' : op = 1 ∨ op = 2 ∨ op = 3 := by omega
      clear hop hu ih
      show ARun Try.prog 47 [.ag [.i op, .i n, .i un, .rs 4 []]] H0 _
      rcases hop' with rfl | rfl | rfl
      all_goals
        (refine ARun.intro Try.func47 rfl Try.call47 Try.ntmps47 Try.results47 ?_; simp only [List.length_cons, List.length_nil, List.length_map, Nat.reduceAdd, Nat.reduceSub, List.replicate_succ, List.replicate_zero, List.cons_append, List.nil_append])
        (refine wk ?_; (repeat' first | exact True.intro | refine Lf.mk ?_ ?_); all_goals intro hP)
        (refine resX ?_; try exact True.intro)
        simp only [not_lt_k, if_false]
        rw [toPV_os (d := 0) (n := 1) (rows := [[.i _, .i n, .i 0]]) rfl rfl]
        rfl
    · obtain ⟨op, n, un, kids⟩ := e
      simp only [Ex.kids, Ex.op, Ex.n, Ex.unit] at *
      subst hk
      have hc : codeE (.mk op n un [a, b]) = codeE a ++ (codeE b ++ [⟨op, 0, 0⟩]) := by simp [codeE, codeEs]
      rw [nodes_eq] at hlen
      simp only [Ex.kids, nodesL] at hlen
      have cA := fun H0 => ih a (by simp) x ha (by omega) H0
      have cB := fun H0 => ih b (by simp) y hb0 (by omega) H0
      have lA : (pvRows ((codeE a).map encI)).length = nodes a := by simp [pvRows, codeE_len]
      have lB : (pvRows ((codeE b).map encI)).length = nodes b := by simp [pvRows, codeE_len]
      have lA' : ((codeE a).map encI).length = nodes a := by simp [codeE_len]
      have lB' : ((codeE b).map encI).length = nodes b := by simp [codeE_len]
      have cO := fun H0 => ROp9_run op (by omega) H0
      rw [hc]
      have hr : ((codeE a ++ (codeE b ++ [(⟨op, 0, 0⟩ : Ins)])).map encI) = (codeE a).map encI ++ ((codeE b).map encI ++ [[.i op, .i 0, .i 0]]) := by simp [encI, cI]
      rw [hr]
      clear hr hc
      generalize (codeE a).map encI = A at *
      generalize (codeE b).map encI = B at *
      have e1 : (op == 1) = false := by simp; omega
      have e2 : (op == 2) = false := by simp; omega
      have e3 : (op == 3) = false := by simp; omega
      show ARun Try.prog 47 [.ag [.i op, .i n, .i un, .rs 4 [encE a, encE b]]] H0 _
      rw [encE_eq a, encE_eq b]
      (refine ARun.intro Try.func47 rfl Try.call47 Try.ntmps47 Try.results47 ?_; simp only [List.length_cons, List.length_nil, List.length_map, Nat.reduceAdd, Nat.reduceSub, List.replicate_succ, List.replicate_zero, List.cons_append, List.nil_append])
      (have ww1 := e1; have ww2 := e2; have ww3 := e3; have ww4 := lA; have ww5 := lB; have cc1 := fun z1 => cA z1; have cc2 := fun z1 => cB z1; have cc3 := fun z1 => cO z1; refine wkO ?_; clear ww1 ww2 ww3 ww4 ww5 cc1 cc2 cc3; (repeat' first | exact True.intro | refine Lf.mk ?_ ?_); all_goals intro hP)
      (refine resX ?_; try exact True.intro)
      simp only [not_lt_k, if_false]
      rw [toPV_os (t := 41) (sz := 3) (d := 0) (rows := A ++ (B ++ [[.i op, .i 0, .i 0]])) (by simp [pvRows]) (by simp [lA', lB'])]
end Go.Proofs.Ytiifbdkedainnaa.Y

set_option maxHeartbeats 8000000
set_option maxRecDepth 100000
set_option linter.unusedVariables false
set_option linter.unusedSimpArgs false
set_option linter.unusedSectionVars false
namespace Go.Proofs.Ytiifbdkedainnaa.Y
open Go.Proofs.Ytiifbdkedainnaa.AL Go.Proofs Go
attribute [local irreducible] AWP AWL AWG AWR AWE AWX AWO AWSeq AWSG AWSR AWSO AWSE AWSF GoodP OGW OGR OGE OGX PGW PGR PGE Wk AWLoop AWPD AWLD

theorem Wr.lift {wid rid : Nat} {H0 : List AObj} {acc : List Ins} (hW : Wr wid rid H0 acc) {f : FuncId} {args : List AV} {v : AV} {X Y : List Ins} (h : ∀ H, Wr wid rid H X → ARun Try.prog f args H (.ret v (mW wid rid H Y))) (L : List AObj) :
    ARun Try.prog f args (mW wid rid H0 X ++ L) (.ret v (mW wid rid H0 Y ++ L)) := by
  have h1 := hW.to X
  have := h _ (h1.app L)
  rwa [h1.mApp, hW.mm] at this
theorem Wr.fall {wid rid : Nat} {H0 L : List AObj} {X : List Ins} {tm tm' : List AV} (hr : rid < H0.length) (d : Nat) (ht : Fgt (tm.map fun c => c.low (mW wid rid H0 X ++ L) H0.length d) tm') :
    Wk H0 tm (mW wid rid H0 X ++ L) tm' (mW wid rid H0 X) := by
  refine Wk.to d ⟨Nat.le_refl _, by simp [mW_len], fun id o hid ho => ?_⟩ (by have := takeO (mW wid rid H0 X) L; rwa [mW_len] at this) ht
  rw [List.getElem?_append_left (by rw [mW_len]; exact hid)] at ho
  exact two_set (under_pvRows _) (by simp [AObj.under, AV.under, hr]) id o ho
theorem stSL_mem {vs : List Un} : ∀ {l : List St}, stSL vs l = 0 → ∀ s ∈ l, stS vs s = 0
  | [], _, s, hs => by cases hs
  | x :: l, h, s, hs => by
    simp only [stSL] at h
    split at h
    · rename_i hx
      rcases List.mem_cons.1 hs with rfl | hs
      · exact hx
      · exact stSL_mem h s hs
    · rename_i hx; exact absurd h hx
theorem wstmts_run {vs : List Un} (wid rid : Nat) : ∀ (N : Nat) (l : List St), manyL l ≤ N → stSL vs l = 0 → ∀ (acc : List Ins) (H0 : List AObj), acc.length + (codeSs l acc.length).length ≤ 1000000000 → manyL l ≤ 1000000000 → Wr wid rid H0 acc →
    ARun Try.prog 26 [.p wid 0, .rs 13 (l.map encS)] H0 (.ret (.tup []) (mW wid rid H0 (acc ++ codeSs l acc.length))) := by
  intro N
  induction N with
  | zero =>
    intro l hN hv acc H0 hlen hll hW
    have hl0 : l = [] := List.eq_nil_of_length_eq_zero (by have := len_manyL l; omega)
    subst hl0
    have hinit : mW wid rid H0 acc = H0 := by
      obtain ⟨a1, a2⟩ := List.getElem?_eq_some_iff.1 hW.r
      obtain ⟨b1, b2⟩ := List.getElem?_eq_some_iff.1 hW.w
      unfold mW
      rw [← a2, List.set_getElem_self, ← b2, List.set_getElem_self]
    rw [show acc ++ codeSs [] acc.length = acc from by simp [codeSs], hinit, List.map_nil]
    (refine ARun.intro Try.func26 rfl Try.call26 Try.ntmps26 Try.results26 ?_; simp only [List.length_cons, List.length_nil, List.length_map, Nat.reduceAdd, Nat.reduceSub, List.replicate_succ, List.replicate_zero, List.cons_append, List.nil_append])
    (refine wkS ?_; (repeat' first | exact True.intro | refine Lf.mk ?_ ?_); all_goals intro hP)
    refine awp_loop 1 ?_
    (refine wkS ?_; (repeat' first | exact True.intro | refine Lf.mk ?_ ?_); all_goals intro hP)
    (refine resX ?_; try exact True.intro)
  | succ N ih =>
    intro l hN hv acc H0 hlen hmb hW
    have hll : l.length ≤ 1000000000 := by have := len_manyL l; omega
    have m0 := mW_get0 wid rid H0
    have mk := mW_getk wid rid H0
    have n0 := mW_set0 wid rid H0
    have nk := mW_setk wid rid H0
    have ml := mW_len wid rid H0
    have hinit : mW wid rid H0 acc = H0 := by
      have := (List.getElem?_eq_some_iff.1 hW.r)
      obtain ⟨a1, a2⟩ := this
      have h2 := (List.getElem?_eq_some_iff.1 hW.w)
      obtain ⟨b1, b2⟩ := h2
      unfold mW
      rw [← a2, List.set_getElem_self, ← b2, List.set_getElem_self]
    (refine ARun.intro Try.func26 rfl Try.call26 Try.ntmps26 Try.results26 ?_; simp only [List.length_cons, List.length_nil, List.length_map, Nat.reduceAdd, Nat.reduceSub, List.replicate_succ, List.replicate_zero, List.cons_append, List.nil_append])
    (refine wkS ?_; (repeat' first | exact True.intro | refine Lf.mk ?_ ?_); all_goals intro hP)
    refine awp_loop_ind (σ := Nat × List Ins) (fun s => l.length - s.1) (fun s => s.1 ≤ l.length ∧ s.2 ++ codeSs (l.drop s.1) s.2.length = acc ++ codeSs l acc.length)
      (fun s => (.p wid 0 :: .any :: .any :: .any :: (.fn (.func 44) [.p wid 0] []) :: .any :: .any :: .any :: .any :: .any :: .any :: .rs 13 (l.map encS) :: .i l.length :: .i s.1 :: .any :: .any :: .any :: .any :: .any :: .any :: .any :: .any :: .any :: .any :: .any :: .any :: .any :: .any :: .any :: .any :: .any :: .any :: .any :: .any :: .any :: .any :: .any :: .any :: .any :: .any :: .any :: .any :: .any :: .any :: .any :: .any :: .any :: .any :: .any :: .any :: .any :: .any :: .any :: .any :: .any :: .any :: .any :: .any :: .any :: .any :: []))
      (fun s => mW wid rid H0 s.2) (0, acc) ⟨Nat.zero_le _, by simp⟩ (by rw [hinit]; (refine fgtX ?_; try exact True.intro)) ?_
    rintro ⟨k, now⟩ ⟨k1, k2⟩
    simp only at k1 k2 ⊢
    have hw : IntKind.i64.wrap ((k : Int) + 1) = ((k + 1 : Nat) : Int) := by rw [wrap_of (by omega) (by omega)]; omega
    have hWn := hW.to now
    cases hd : l.drop k with
    | nil =>
      have hk : l.length ≤ k := List.drop_eq_nil_iff.1 hd
      have hlt := drop_nil hd
      rw [hd] at k2
      simp only [codeSs, List.append_nil] at k2
      rw [← k2]
      (refine wkO ?_; (repeat' first | exact True.intro | refine Lf.mk ?_ ?_); all_goals intro hP)
      (unfold mW; ((try simp only [go_sem, Nat.reduceAdd, Nat.reduceSub, Nat.reduceMul, Nat.reduceLeDiff, Nat.reduceLT, Nat.reduceEqDiff, Int.reduceToNat, Int.reduceAdd, Int.reduceMul, Int.reduceSub, Int.reduceLT, Int.reduceLE, Int.reduceEq, Int.reduceNeg, Int.reduceBEq, Int.reduceBNe, ↓reduceIte, reduceCtorEq]); (first | refine ⟨_, rfl, _, rfl, Fin.set20 1 ?_ ?_ ?_⟩ | refine ⟨_, rfl, _, rfl, Fin.set2 1 ?_ ?_ ?_⟩)))
      · exact under_pvRows _
      · have := (List.getElem?_eq_some_iff.1 hW.r).1; simp [AObj.under, AV.under, this]
      · simp [AV.low]
    | cons s ss =>
      obtain ⟨hvk, hlt, hr, hm⟩ := drop_cons hd
      have hs := stSL_mem hv s hm
      rw [hd, codeSs] at k2
      have hl' : (l.map encS)[k]? = some (cS s) := by rw [List.getElem?_map, hvk]; exact congrArg some (encS_eq s)
      have hln := congrArg List.length k2
      simp only [List.length_append] at hln
      have hrid := (List.getElem?_eq_some_iff.1 hW.r).1
      have hwl := (List.getElem?_eq_some_iff.1 hW.w).1
      rcases stS_ok hs with ⟨hk1, hv0, hv1, u, hu⟩ | ⟨hk2, hr1, hr2, ⟨u, hu⟩, ⟨u', hu'⟩, ht, he⟩
      · have hc : codeS s now.length = codeE s.a ++ [⟨11, s.var, 0⟩] := by
          obtain ⟨kind, var, rel, a, b, th, el⟩ := s
          simp only [St.kind, St.var, St.a] at *
          subst hk1
          simp [codeS]
        rw [hc] at k2 hln
        simp only [List.length_append, List.length_cons, List.length_nil] at hln
        have cA := hW.lift (fun H hH => wexpr_run wid rid s.a u hu now H (by omega) hH)
        have cB := hW.lift (fun H hH => wadd wid rid (now ++ codeE s.a) 11 s.var 0 (by simp only [List.length_append]; omega) H hH)
        generalize hX1 : now ++ codeE s.a = X1 at cA cB
        generalize hX2 : X1 ++ [(⟨11, s.var, 0⟩ : Ins)] = X2 at cB
        (have ww1 := hl'; have ww2 := hlt; have ww3 := hw; have ww4 := hk1; have ww5 := m0; have ww6 := mk; have ww7 := n0; have ww8 := nk; have ww9 := ml; have cc1 := fun z1 => cA z1; have cc2 := fun z1 => cB z1; refine wkS ?_; clear ww1 ww2 ww3 ww4 ww5 ww6 ww7 ww8 ww9 cc1 cc2; (repeat' first | exact True.intro | refine Lf.mk ?_ ?_); all_goals intro hP)
        refine ⟨(k + 1, X2), by simp only; omega, ⟨by simp only; omega, ?_⟩, ?_⟩
        · simp only
          rw [hr, ← k2, ← hX2, ← hX1]
          simp [Nat.add_assoc]
        · refine Wr.fall hrid 1 ?_
          simp only [List.map_cons, List.map_nil, AV.low, hwl, if_true, Fgt, true_or, or_true, and_true, true_and]
      · have hmm := manyL_mem hm
        have hmi := many_inner s
        rw [many_eq, if_pos hk2] at hmi
        have hmt : manyL s.thn ≤ N ∧ manyL s.els ≤ N := by omega
        have hns : s.kind ≠ 1 := by omega
        cases hel : s.els with
        | nil =>
          have hc : codeS s now.length = codeE s.a ++ codeE s.b ++ [⟨12, ((now.length + (codeE s.a).length + (codeE s.b).length + 1 + (codeSs s.thn (now.length + (codeE s.a).length + (codeE s.b).length + 1)).length : Nat) : Int), s.rel⟩] ++ codeSs s.thn (now.length + (codeE s.a).length + (codeE s.b).length + 1) := by
            obtain ⟨kind, var, rel, a, b, th, el⟩ := s
            simp only [St.kind, St.var, St.a, St.b, St.rel, St.thn, St.els] at *
            subst hel
            rw [codeS, if_neg hns]
          rw [hc] at k2 hln
          simp only [List.length_append, List.length_cons, List.length_nil] at hln
          have cA := hW.lift (fun H hH => wexpr_run wid rid s.a u hu now H (by omega) hH)
          have cB := hW.lift (fun H hH => wexpr_run wid rid s.b u' hu' (now ++ codeE s.a) H (by simp only [List.length_append]; omega) hH)
          have cJ := hW.lift (fun H hH => wadd wid rid (now ++ codeE s.a ++ codeE s.b) 12 0 s.rel (by simp only [List.length_append]; omega) H hH)
          generalize hX1 : now ++ codeE s.a = X1 at cA cB cJ
          generalize hX2 : X1 ++ codeE s.b = X2 at cB cJ
          generalize hX3 : X2 ++ [(⟨12, 0, s.rel⟩ : Ins)] = X3 at cJ
          have e2 : X2.length = now.length + (codeE s.a).length + (codeE s.b).length := by rw [← hX2, ← hX1]; simp only [List.length_append]
          have e3 : X3.length = now.length + (codeE s.a).length + (codeE s.b).length + 1 := by rw [← hX3, List.length_append, e2]; rfl
          rw [← e3] at k2 hln
          have cT := hW.lift (fun H hH => ih s.thn hmt.1 ht X3 H (by omega) (by omega) hH)
          generalize hT : codeSs s.thn X3.length = T at cT k2 hln
          generalize hX4 : X3 ++ T = X4 at cT
          have e4 : X4.length = X3.length + T.length := by rw [← hX4, List.length_append]
          have hx4 : X4[X2.length]? = some ⟨12, 0, s.rel⟩ := by rw [← hX4, ← hX3]; simp
          have cH := hW.lift (fun H hH => whr_run wid rid X4 X2.length _ hx4 (by omega) H hH)
          generalize hX5 : X4.set X2.length ⟨12, X4.length, s.rel⟩ = X5 at cH
          have hel' : ((s.els.map encS).length : Int) = 0 := by rw [hel]; rfl
          have hk1' : (s.kind == 1) = false := by rw [hk2]; rfl
          (have ww1 := hl'; have ww2 := hlt; have ww3 := hw; have ww4 := hk2; have ww5 := hel; have ww6 := m0; have ww7 := mk; have ww8 := n0; have ww9 := nk; have ww10 := ml; have cc1 := fun z1 => cA z1; have cc2 := fun z1 => cB z1; have cc3 := fun z1 => cJ z1; have cc4 := fun z1 => cT z1; have cc5 := fun z1 => cH z1; refine wkS ?_; clear ww1 ww2 ww3 ww4 ww5 ww6 ww7 ww8 ww9 ww10 cc1 cc2 cc3 cc4 cc5; (repeat' first | exact True.intro | refine Lf.mk ?_ ?_); all_goals intro hP)
          refine ⟨(k + 1, X5), by simp only; omega, ⟨by simp only; omega, ?_⟩, ?_⟩
          · simp only
            have e5 : X5 = now ++ (codeE s.a ++ codeE s.b ++ [⟨12, ((X3.length + T.length : Nat) : Int), s.rel⟩] ++ T) := by
              rw [← hX5, e4, ← hX4, ← hX3, ← hX2, ← hX1]; simp
            rw [hr, ← k2, e5]
            simp [Nat.add_assoc]
          · refine Wr.fall hrid 1 ?_
            simp only [List.map_cons, List.map_nil, AV.low, hwl, if_true, Fgt, true_or, or_true, and_true, true_and]
        | cons x xs =>
          have hc : codeS s now.length = codeE s.a ++ codeE s.b ++ [⟨12, ((now.length + (codeE s.a).length + (codeE s.b).length + 1 + (codeSs s.thn (now.length + (codeE s.a).length + (codeE s.b).length + 1)).length + 1 : Nat) : Int), s.rel⟩] ++ codeSs s.thn (now.length + (codeE s.a).length + (codeE s.b).length + 1) ++
              [⟨13, ((now.length + (codeE s.a).length + (codeE s.b).length + 1 + (codeSs s.thn (now.length + (codeE s.a).length + (codeE s.b).length + 1)).length + 1 + (codeSs s.els (now.length + (codeE s.a).length + (codeE s.b).length + 1 + (codeSs s.thn (now.length + (codeE s.a).length + (codeE s.b).length + 1)).length + 1)).length : Nat) : Int), 0⟩] ++
              codeSs s.els (now.length + (codeE s.a).length + (codeE s.b).length + 1 + (codeSs s.thn (now.length + (codeE s.a).length + (codeE s.b).length + 1)).length + 1) := by
            obtain ⟨kind, var, rel, a, b, th, el⟩ := s
            simp only [St.kind, St.var, St.a, St.b, St.rel, St.thn, St.els] at *
            subst hel
            rw [codeS, if_neg hns]
          rw [hc] at k2 hln
          simp only [List.length_append, List.length_cons, List.length_nil] at hln
          have cA := hW.lift (fun H hH => wexpr_run wid rid s.a u hu now H (by omega) hH)
          have cB := hW.lift (fun H hH => wexpr_run wid rid s.b u' hu' (now ++ codeE s.a) H (by simp only [List.length_append]; omega) hH)
          have cJ := hW.lift (fun H hH => wadd wid rid (now ++ codeE s.a ++ codeE s.b) 12 0 s.rel (by simp only [List.length_append]; omega) H hH)
          generalize hX1 : now ++ codeE s.a = X1 at cA cB cJ
          generalize hX2 : X1 ++ codeE s.b = X2 at cB cJ
          generalize hX3 : X2 ++ [(⟨12, 0, s.rel⟩ : Ins)] = X3 at cJ
          have e2 : X2.length = now.length + (codeE s.a).length + (codeE s.b).length := by rw [← hX2, ← hX1]; simp only [List.length_append]
          have e3 : X3.length = now.length + (codeE s.a).length + (codeE s.b).length + 1 := by rw [← hX3, List.length_append, e2]; rfl
          rw [← e3] at k2 hln
          have cT := hW.lift (fun H hH => ih s.thn hmt.1 ht X3 H (by omega) (by omega) hH)
          generalize hT : codeSs s.thn X3.length = T at cT k2 hln
          generalize hX4 : X3 ++ T = X4 at cT
          have e4 : X4.length = X3.length + T.length := by rw [← hX4, List.length_append]
          have cK := hW.lift (fun H hH => wadd wid rid X4 13 0 0 (by omega) H hH)
          generalize hX5 : X4 ++ [(⟨13, 0, 0⟩ : Ins)] = X5 at cK
          have e5 : X5.length = X3.length + T.length + 1 := by rw [← hX5, List.length_append, e4]; rfl
          have hx5 : X5[X2.length]? = some ⟨12, 0, s.rel⟩ := by rw [← hX5, ← hX4, ← hX3]; simp
          have cH := hW.lift (fun H hH => whr_run wid rid X5 X2.length _ hx5 (by omega) H hH)
          generalize hX6 : X5.set X2.length ⟨12, X5.length, s.rel⟩ = X6 at cH
          have e6 : X6.length = X3.length + T.length + 1 := by rw [← hX6, List.length_set, e5]
          rw [← e6] at k2 hln
          have cU := hW.lift (fun H hH => ih s.els hmt.2 he X6 H (by omega) (by omega) hH)
          generalize hU : codeSs s.els X6.length = U at cU k2 hln
          generalize hX7 : X6 ++ U = X7 at cU
          have e7 : X7.length = X6.length + U.length := by rw [← hX7, List.length_append]
          have v6 : X6 = X3.take X2.length ++ ([⟨12, ((X6.length : Nat) : Int), s.rel⟩] ++ T ++ [⟨13, 0, 0⟩]) := by
            rw [e6, ← e5, ← hX6, ← hX5, ← hX4, ← hX3]; simp
          have hx7 : X7[X4.length]? = some ⟨13, 0, 0⟩ := by
            rw [← hX7, ← hX6, ← hX5, List.getElem?_append_left (by simp), List.getElem?_set_ne (by rw [e4, e2, e3]; omega)]; simp
          have cI := hW.lift (fun H hH => whr_run wid rid X7 X4.length _ hx7 (by omega) H hH)
          generalize hX8 : X7.set X4.length ⟨13, X7.length, 0⟩ = X8 at cI
          have hne0 : s.els ≠ [] := by rw [hel]; simp
          have hel1 : ¬ ((s.els.length : Int) = 0) := by rw [hel]; simp; omega
          have hel2 : (((s.els.length : Int)) == 0) = false := by simp [hne0]
          (have ww1 := hl'; have ww2 := hlt; have ww3 := hw; have ww4 := hk2; have ww5 := hel2; have ww6 := hel1; have ww7 := m0; have ww8 := mk; have ww9 := n0; have ww10 := nk; have ww11 := ml; have cc1 := fun z1 => cA z1; have cc2 := fun z1 => cB z1; have cc3 := fun z1 => cJ z1; have cc4 := fun z1 => cT z1; have cc5 := fun z1 => cK z1; have cc6 := fun z1 => cH z1; have cc7 := fun z1 => cU z1; have cc8 := fun z1 => cI z1; refine wkS ?_; clear ww1 ww2 ww3 ww4 ww5 ww6 ww7 ww8 ww9 ww10 ww11 cc1 cc2 cc3 cc4 cc5 cc6 cc7 cc8; (repeat' first | exact True.intro | refine Lf.mk ?_ ?_); all_goals intro hP)
          refine ⟨(k + 1, X8), by simp only; omega, ⟨by simp only; omega, ?_⟩, ?_⟩
          · simp only
            have w6 : X6 = X2 ++ [(⟨12, ((X6.length : Nat) : Int), s.rel⟩ : Ins)] ++ T ++ [⟨13, 0, 0⟩] := by
              rw [e6, ← e5, ← hX6, ← hX5, ← hX4, ← hX3]; simp
            have hP : X4.length = (X2 ++ [(⟨12, ((X6.length : Nat) : Int), s.rel⟩ : Ins)] ++ T).length := by
              rw [e4, e3]; simp only [List.length_append, List.length_cons, List.length_nil]; omega
            have e8 : X8 = now ++ (codeE s.a ++ codeE s.b ++ [⟨12, ((X6.length : Nat) : Int), s.rel⟩] ++ T ++ [⟨13, ((X6.length + U.length : Nat) : Int), 0⟩] ++ U) := by
              rw [← hX8, e7, ← hX7]
              generalize hn6 : X6.length = n6 at *
              rw [w6, hP, ← hX2, ← hX1]
              simp
            rw [hr, ← k2, e8]
            simp [Nat.add_assoc]
          · refine Wr.fall hrid 1 ?_
            simp only [List.map_cons, List.map_nil, AV.low, hwl, if_true, Fgt, true_or, or_true, and_true, true_and]
end Go.Proofs.Ytiifbdkedainnaa.Y

set_option maxHeartbeats 8000000
set_option maxRecDepth 100000
set_option linter.unusedVariables false
set_option linter.unusedSimpArgs false
set_option linter.unusedSectionVars false
namespace Go.Proofs.Ytiifbdkedainnaa.Y
open Go.Proofs.Ytiifbdkedainnaa.AL Go.Proofs Go
attribute [local irreducible] AWP AWL AWG AWR AWE AWX AWO AWSeq AWSG AWSR AWSO AWSE AWSF GoodP OGW OGR OGE OGX PGW PGR PGE Wk AWLoop AWPD AWLD

abbrev pR (X : List Ins) : List (List AV) := pvRows (X.map encI)
theorem pR_len (X : List Ins) : (pR X).length = X.length := by simp [pvRows]
theorem pR_app (X : List Ins) (Y : List Ins) : pR X ++ (Y.map encI).map (fun r => r.map AV.pv) = pR (X ++ Y) := by simp [pvRows]
theorem pR_one (X : List Ins) (a b c : Int) : pR X ++ [[.i a, .i b, .i c]] = pR (X ++ [⟨a, b, c⟩]) := by simp [pvRows, encI, cI]
theorem pR_get {X : List Ins} {k : Nat} {x : Ins} (h : X[k]? = some x) : (pR X)[k]? = some [.i x.op, .i x.n, .i x.rel] := by simp [pvRows, h, encI, cI]
theorem pR_set (X : List Ins) (k : Nat) (x : Ins) : (pR X).set k [.i x.op, .i x.n, .i x.rel] = pR (X.set k x) := by simp [pvRows, List.map_set, encI, cI]
theorem RStmts9_run {vs : List Un} : ∀ (N : Nat) (l : List St), manyL l < N → stSL vs l = 0 → ∀ (at' : Nat) (H0 : List AObj), at' + (codeSs l at').length ≤ 1000000000 →
    ARun Try.prog 27 [.rs 13 (l.map encS), .i at'] H0 (.ret (.rs 3 ((codeSs l at').map encI)) H0) := by
  intro N
  induction N with
  | zero =>
    intro l hN; omega
  | succ N ih =>
    intro l hN hv at' H0 hlen
    (refine ARun.intro Try.func27 rfl Try.call27 Try.ntmps27 Try.results27 ?_; simp only [List.length_cons, List.length_nil, List.length_map, Nat.reduceAdd, Nat.reduceSub, List.replicate_succ, List.replicate_zero, List.cons_append, List.nil_append])
    refine awp_len 0 rfl fun hlen2 => ?_
    rw [List.length_map] at hlen2
    (refine wkS ?_; (repeat' first | exact True.intro | refine Lf.mk ?_ ?_); all_goals intro hP)
    refine awp_wk (Wk.ghost 5 41 (sz := 3) (by decide) rfl) ?_
    refine awp_loop_ind (σ := Nat × List Ins) (fun s => l.length - s.1) (fun s => s.1 ≤ l.length ∧ s.2 ++ codeSs (l.drop s.1) (at' + s.2.length) = codeSs l at')
      (fun s => (.rs 13 (l.map encS) :: .i at' :: .any :: .any :: .any :: .os H0.length 0 s.2.length s.2.length :: .i s.1 :: .any :: .any :: .any :: .any :: .any :: .any :: .any :: .any :: .any :: .any :: .any :: .any :: .any :: .any :: .any :: .any :: .any :: .any :: .any :: .any :: .any :: .any :: .any :: .any :: .any :: .any :: .any :: .any :: .any :: .any :: .any :: .any :: .any :: .any :: .any :: .any :: .any :: .any :: .any :: .any :: .any :: .any :: .any :: .any :: .any :: .any :: .any :: .any :: .any :: .any :: .any :: .any :: .any :: .any :: .any :: .any :: .any :: .any :: .any :: .any :: .any :: .any :: .any :: .any :: .any :: .any :: .any :: .any :: .any :: .any :: .any :: .any :: .any :: .any :: .any :: .any :: .any :: .any :: .any :: .any :: .any :: .any :: .any :: .any :: .any :: .any :: .any :: .any :: .any :: []))
      (fun s => H0 ++ [.arr 41 3 (pR s.2)]) (0, []) ⟨Nat.zero_le _, by simp⟩ (by (refine fgtX ?_; try exact True.intro)) ?_
    rintro ⟨k, now⟩ ⟨k1, k2⟩
    simp only at k1 k2 ⊢
    cases hd : l.drop k with
    | nil =>
      have hlt := drop_nil hd
      rw [hd] at k2
      simp only [codeSs, List.append_nil] at k2
      rw [← k2]
      (refine wkO ?_; (repeat' first | exact True.intro | refine Lf.mk ?_ ?_); all_goals intro hP)
      (refine resX ?_; try exact True.intro)
      rw [toPV_os0 (rows := now.map encI) (by simp)]
    | cons s ss =>
      obtain ⟨hvk, hlt, hr, hm⟩ := drop_cons hd
      have hs := stSL_mem hv s hm
      have hw : IntKind.i64.wrap ((k : Int) + 1) = ((k + 1 : Nat) : Int) := by rw [wrap_of (by omega) (by omega)]; omega
      rw [hd, codeSs] at k2
      have hl' : (l.map encS)[k]? = some (cS s) := by rw [List.getElem?_map, hvk]; exact congrArg some (encS_eq s)
      have hln := congrArg List.length k2
      simp only [List.length_append] at hln
      rcases stS_ok hs with ⟨hk1, hv0, hv1, u, hu⟩ | ⟨hk2, hr1, hr2, ⟨u, hu⟩, ⟨u', hu'⟩, ht, he⟩
      · have hc : codeS s (at' + now.length) = codeE s.a ++ [⟨11, s.var, 0⟩] := by
          obtain ⟨kind, var, rel, a, b, th, el⟩ := s
          simp only [St.kind, St.var, St.a] at *
          subst hk1
          simp [codeS]
        rw [hc] at k2 hln
        simp only [List.length_append, List.length_cons, List.length_nil] at hln
        have cA := fun H => RExpr9_run s.a u hu (by rw [← codeE_len]; omega) H
        have lA : ((codeE s.a).map encI).length = (codeE s.a).length := by simp
        have p1 := pR_app now (codeE s.a)
        have p2 := pR_one (now ++ codeE s.a) 11 s.var 0
        have l0 := pR_len now
        have l1 := pR_len (now ++ codeE s.a)
        rw [List.length_append] at l1
        have e2 : (now ++ codeE s.a ++ [(⟨11, s.var, 0⟩ : Ins)]).length = now.length + (codeE s.a).length + 1 := by simp only [List.length_append, List.length_cons, List.length_nil]
        have k3 : (now ++ codeE s.a ++ [(⟨11, s.var, 0⟩ : Ins)]) ++ codeSs ss (at' + (now ++ codeE s.a ++ [(⟨11, s.var, 0⟩ : Ins)]).length) = codeSs l at' := by rw [← k2]; simp [Nat.add_assoc]
        clear k2
        have u2 := under_pvRows (m := H0.length + 1) (t := 41) (sz := 3) ((now ++ codeE s.a ++ [(⟨11, s.var, 0⟩ : Ins)]).map encI)
        have le2 := pR_len (now ++ codeE s.a ++ [(⟨11, s.var, 0⟩ : Ins)])
        generalize (codeE s.a).map encI = A at *
        generalize now ++ codeE s.a ++ [(⟨11, s.var, 0⟩ : Ins)] = X2 at *
        generalize now ++ codeE s.a = X1 at *
        generalize (codeE s.a).length = na at *
        generalize hR2 : pR X2 = R2 at *
        generalize pR X1 = R1 at *
        generalize pR now = R0 at *
        (have ww1 := hl'; have ww2 := hw; have ww3 := hk1; have ww4 := p1; have ww5 := p2; have ww6 := lA; have ww7 := l0; have ww8 := l1; have cc1 := fun z1 => cA z1; refine wkO ?_; clear ww1 ww2 ww3 ww4 ww5 ww6 ww7 ww8 cc1; (repeat' first | exact True.intro | refine Lf.mk ?_ ?_); all_goals intro hP)
        refine ⟨(k + 1, X2), by simp only; omega, ⟨by simp only; omega, by simp only; rw [hr, k3]⟩, ?_⟩
        simp only
        refine Wk.keepE 1 1 (by rw [hR2]; rfl) (by simp) (by intro o ho; simp only [List.mem_cons, List.not_mem_nil, or_false] at ho; subst ho; exact u2) ?_
        simp only [List.map_cons, List.map_nil, AV.low, e2, Nat.add_assoc, Nat.lt_irrefl, if_false, Fgt, true_or, or_true, and_true, true_and, Nat.lt_add_right_iff_pos, Nat.lt_add_one, if_true, eq_self]
      · have hmm := manyL_mem hm
        have hmi := many_inner s
        rw [many_eq, if_pos hk2] at hmi
        have hmt : manyL s.thn < N ∧ manyL s.els < N := by omega
        have hns : s.kind ≠ 1 := by omega
        have cA := fun H (hn : nodes s.a ≤ 1000000000) => RExpr9_run s.a u hu hn H
        have cB := fun H (hn : nodes s.b ≤ 1000000000) => RExpr9_run s.b u' hu' hn H
        have lA : ((codeE s.a).map encI).length = (codeE s.a).length := by simp
        have lB : ((codeE s.b).map encI).length = (codeE s.b).length := by simp
        have nA := codeE_len s.a
        have nB := codeE_len s.b
        have p1 := pR_app now (codeE s.a)
        have p2 := pR_app (now ++ codeE s.a) (codeE s.b)
        have p3 := pR_one (now ++ codeE s.a ++ codeE s.b) 12 0 s.rel
        have l0 := pR_len now
        have l1 := pR_len (now ++ codeE s.a)
        have l2 := pR_len (now ++ codeE s.a ++ codeE s.b)
        have l3 := pR_len (now ++ codeE s.a ++ codeE s.b ++ [(⟨12, 0, s.rel⟩ : Ins)])
        simp only [List.length_append, List.length_cons, List.length_nil, Nat.add_assoc, Nat.zero_add] at l1 l2 l3
        have cT := fun H h => ih s.thn hmt.1 ht (at' + (now.length + ((codeE s.a).length + ((codeE s.b).length + 1)))) H h
        have lT : ((codeSs s.thn (at' + (now.length + ((codeE s.a).length + ((codeE s.b).length + 1))))).map encI).length = (codeSs s.thn (at' + (now.length + ((codeE s.a).length + ((codeE s.b).length + 1))))).length := by simp
        cases hel : s.els with
        | nil =>
          have hc : codeS s (at' + now.length) = codeE s.a ++ codeE s.b ++ [⟨12, ((at' + (now.length + ((codeE s.a).length + ((codeE s.b).length + (1 + (codeSs s.thn (at' + (now.length + ((codeE s.a).length + ((codeE s.b).length + 1))))).length)))) : Nat) : Int), s.rel⟩] ++ codeSs s.thn (at' + (now.length + ((codeE s.a).length + ((codeE s.b).length + 1)))) := by
            obtain ⟨kind, var, rel, a, b, th, el⟩ := s
            simp only [St.kind, St.var, St.a, St.b, St.rel, St.thn, St.els] at *
            subst hel
            rw [codeS, if_neg hns]
            simp only [Nat.add_assoc]
          rw [hc] at k2 hln
          clear hc
          simp only [List.length_append, List.length_cons, List.length_nil] at hln
          generalize hT : codeSs s.thn (at' + (now.length + ((codeE s.a).length + ((codeE s.b).length + 1)))) = T at *
          have p4 := pR_app (now ++ codeE s.a ++ codeE s.b ++ [(⟨12, 0, s.rel⟩ : Ins)]) T
          have l4 := pR_len (now ++ codeE s.a ++ codeE s.b ++ [(⟨12, 0, s.rel⟩ : Ins)] ++ T)
          simp only [List.length_append, List.length_cons, List.length_nil, Nat.add_assoc, Nat.zero_add] at l4
          have g4 := pR_get (X := now ++ codeE s.a ++ codeE s.b ++ [(⟨12, 0, s.rel⟩ : Ins)] ++ T) (k := now.length + (codeE s.a).length + (codeE s.b).length) (x := ⟨12, 0, s.rel⟩) (by rw [← List.length_append, ← List.length_append]; simp)
          have p5 := pR_set (now ++ codeE s.a ++ codeE s.b ++ [(⟨12, 0, s.rel⟩ : Ins)] ++ T) (now.length + (codeE s.a).length + (codeE s.b).length) ⟨12, ((at' + (now.length + ((codeE s.a).length + ((codeE s.b).length + (1 + T.length)))) : Nat) : Int), s.rel⟩
          have v5 : (now ++ codeE s.a ++ codeE s.b ++ [(⟨12, 0, s.rel⟩ : Ins)] ++ T).set (now.length + (codeE s.a).length + (codeE s.b).length) ⟨12, ((at' + (now.length + ((codeE s.a).length + ((codeE s.b).length + (1 + T.length)))) : Nat) : Int), s.rel⟩ = now ++ codeE s.a ++ codeE s.b ++ [(⟨12, ((at' + (now.length + ((codeE s.a).length + ((codeE s.b).length + (1 + T.length)))) : Nat) : Int), s.rel⟩ : Ins)] ++ T := by
            rw [← List.length_append, ← List.length_append]; simp
          rw [v5] at p5
          have u5 := under_pvRows (m := H0.length + 1) (t := 41) (sz := 3) ((now ++ codeE s.a ++ codeE s.b ++ [(⟨12, ((at' + (now.length + ((codeE s.a).length + ((codeE s.b).length + (1 + T.length)))) : Nat) : Int), s.rel⟩ : Ins)] ++ T).map encI)
          have k3 : (now ++ codeE s.a ++ codeE s.b ++ [(⟨12, ((at' + (now.length + ((codeE s.a).length + ((codeE s.b).length + (1 + T.length)))) : Nat) : Int), s.rel⟩ : Ins)] ++ T) ++ codeSs ss (at' + (now ++ codeE s.a ++ codeE s.b ++ [(⟨12, ((at' + (now.length + ((codeE s.a).length + ((codeE s.b).length + (1 + T.length)))) : Nat) : Int), s.rel⟩ : Ins)] ++ T).length) = codeSs l at' := by rw [← k2]; simp [Nat.add_assoc]
          have e5 : (now ++ codeE s.a ++ codeE s.b ++ [(⟨12, ((at' + (now.length + ((codeE s.a).length + ((codeE s.b).length + (1 + T.length)))) : Nat) : Int), s.rel⟩ : Ins)] ++ T).length = now.length + ((codeE s.a).length + ((codeE s.b).length + (1 + T.length))) := by simp only [List.length_append, List.length_cons, List.length_nil]; omega
          clear k2 v5
          simp only [Ins.op, Ins.n, Ins.rel, Nat.add_assoc] at g4 p5
          generalize now ++ codeE s.a ++ codeE s.b ++ [(⟨12, ((at' + (now.length + ((codeE s.a).length + ((codeE s.b).length + (1 + T.length)))) : Nat) : Int), s.rel⟩ : Ins)] ++ T = X5 at *
          generalize now ++ codeE s.a ++ codeE s.b ++ [(⟨12, 0, s.rel⟩ : Ins)] ++ T = X4 at *
          generalize now ++ codeE s.a ++ codeE s.b ++ [(⟨12, 0, s.rel⟩ : Ins)] = X3 at *
          generalize now ++ codeE s.a ++ codeE s.b = X2 at *
          generalize now ++ codeE s.a = X1 at *
          generalize T.map encI = TT at *
          generalize (codeE s.a).map encI = A at *
          generalize (codeE s.b).map encI = B at *
          generalize (codeE s.a).length = na at *
          generalize (codeE s.b).length = nb at *
          generalize T.length = nt at *
          generalize hR5 : pR X5 = R5 at *
          generalize pR X4 = R4 at *
          generalize pR X3 = R3 at *
          generalize pR X2 = R2 at *
          generalize pR X1 = R1 at *
          generalize pR now = R0 at *
          generalize hnl : now.length = m at *
          have cA' := fun H => cA H (by omega)
          have cB' := fun H => cB H (by omega)
          have cT' := fun H => cT H (by omega)
          have w1 : IntKind.i64.wrap ((at' : Int) + ((m + (na + (nb + 1)) : Nat) : Int)) = ((at' + (m + (na + (nb + 1))) : Nat) : Int) := by rw [wrap_of (by omega) (by omega)]; omega
          have w2 : IntKind.i64.wrap ((at' : Int) + ((m + (na + (nb + (1 + nt))) : Nat) : Int)) = ((at' + (m + (na + (nb + (1 + nt)))) : Nat) : Int) := by rw [wrap_of (by omega) (by omega)]; omega
          clear cA cB cT ih
          repeat' (first | refine awp_seq ?_ | refine awp_block ?_ | refine awp_scope ?_ | ((first | refine awp_region_k fun Kn Kp hn hp => ?_ | refine oge_intro (by assumption) ?_ | (show AWE _ _ _ _ _ _ _ _ _; first | refine awe_intro (cA' _) ?_ | refine awe_intro (cB' _) ?_ | refine awe_intro (cT' _) ?_) | (show AWSF _ _ _ _ _ _ _ _ _ _ _; first | refine awsf_intro (cA' _) (fun hrun => ?_) | refine awsf_intro (cB' _) (fun hrun => ?_) | refine awsf_intro (cT' _) (fun hrun => ?_)) | (show OGE _ _ _ _ _ _ _; first | refine oge_intro (cA' _) ?_ | refine oge_intro (cB' _) ?_ | refine oge_intro (cT' _) ?_) | (show AWSE _ _ _ _ _ _ _ _ _ _ _; first | refine awse_intro (cA' _) (fun hrun => ?_) | refine awse_intro (cB' _) (fun hrun => ?_) | refine awse_intro (cT' _) (fun hrun => ?_)) | (show PGE _ _ _ _ _; first | refine pge_intro (cA' _) (fun tm' => ?_) | refine pge_intro (cB' _) (fun tm' => ?_) | refine pge_intro (cT' _) (fun tm' => ?_))) <;> (simp only [go_sem, Nat.reduceAdd, Nat.reduceSub, Nat.reduceMul, Nat.reduceLeDiff, Nat.reduceLT, Nat.reduceEqDiff, Int.reduceToNat, Int.reduceAdd, Int.reduceMul, Int.reduceSub, Int.reduceLT, Int.reduceLE, Int.reduceEq, Int.reduceNeg, Int.reduceBEq, Int.reduceBNe, ↓reduceIte, reduceCtorEq, List.length_map, hl', hw, hk2, hel, p1, p2, p3, p4, p5, g4, lA, lB, lT, l0, l1, l2, l3, l4, w1, w2] <;> try simp (disch := omega) only [wrap_of])) | (refine hn _ _ ?_; clear hn hp Kn Kp) | (refine hp _ _ _ ?_; clear hn hp Kn Kp) | (simp (disch := omega) only [getSkip16, setSkip16, getAt1, setAt1, getAt2, setAt2, getAt3, setAt3, getAt4, setAt4, getAt5, setAt5, getAt6, setAt6, getAt7, setAt7, getAt8, setAt8, getAt9, setAt9, getAt10, setAt10, getAt11, setAt11, getAt12, setAt12, getAt13, setAt13, getAt14, setAt14, getAt15, setAt15, go_sem, Nat.reduceAdd, Nat.reduceSub, Nat.reduceMul, Nat.reduceLeDiff, Nat.reduceLT, Nat.reduceEqDiff, Int.reduceToNat, Int.reduceAdd, Int.reduceMul, Int.reduceSub, Int.reduceLT, Int.reduceLE, Int.reduceEq, Int.reduceNeg, Int.reduceBEq, Int.reduceBNe, ↓reduceIte, reduceCtorEq, List.length_map, hl', hw, hk2, hel, p1, p2, p3, p4, p5, g4, lA, lB, lT, l0, l1, l2, l3, l4, w1, w2, if_pos, if_neg, decide_pos', decide_neg', beq_pos', beq_neg', bne_pos', bne_neg', getE, wrap_of]) | (refine awp_cond_t rfl (by first | with_reducible rfl | (simp only [Bool.and_eq_true, Bool.or_eq_true, Bool.and_eq_false_iff, Bool.or_eq_false_iff, decide_eq_true_eq, decide_eq_false_iff_not, beq_iff_eq, bne_iff_ne, bne_eq_false_iff_eq, beq_eq_false_iff_ne, ne_eq, Bool.not_eq_true', Bool.not_eq_false', not_true_eq_false, not_false_eq_true]; omega)) ?_) | (refine awp_cond_f rfl (by first | with_reducible rfl | (simp only [Bool.and_eq_true, Bool.or_eq_true, Bool.and_eq_false_iff, Bool.or_eq_false_iff, decide_eq_true_eq, decide_eq_false_iff_not, beq_iff_eq, bne_iff_ne, bne_eq_false_iff_eq, beq_eq_false_iff_ne, ne_eq, Bool.not_eq_true', Bool.not_eq_false', not_true_eq_false, not_false_eq_true]; omega)) ?_) | (refine awp_cond rfl (fun hb => ?_) (fun hb => ?_) <;> (try simp only [decide_eq_true_eq, decide_eq_false_iff_not, Bool.not_eq_true', Bool.not_eq_false', Bool.true_eq_false, Bool.false_eq_true, beq_iff_eq, bne_iff_ne, Bool.or_eq_true, Bool.and_eq_true, Bool.or_eq_false_iff, Bool.and_eq_false_iff, bne_eq_false_iff_eq, beq_eq_false_iff_ne, gt_iff_lt, ge_iff_le, Int.reduceEq, Int.reduceNe, Int.reduceLT, Int.reduceLE, ne_eq, not_true_eq_false, not_false_eq_true] at hb)) | ((first | refine awg_split (fun hb => ?_) (fun hb => ?_) | refine awsg_split (fun hb => ?_) (fun hb => ?_)) <;> have hb0 := hb <;> (try simp only [decide_eq_true_eq, decide_eq_false_iff_not, Bool.not_eq_true', Bool.not_eq_false', Bool.true_eq_false, Bool.false_eq_true, beq_iff_eq, bne_iff_ne, Bool.or_eq_true, Bool.and_eq_true, Bool.or_eq_false_iff, Bool.and_eq_false_iff, bne_eq_false_iff_eq, beq_eq_false_iff_ne, gt_iff_lt, ge_iff_le, Int.reduceEq, Int.reduceNe, Int.reduceLT, Int.reduceLE, ne_eq, not_true_eq_false, not_false_eq_true] at hb0) <;> (try simp only [beq_true, beq_false, Bool.not_eq_true', Bool.not_eq_false'] at hb) <;> (simp only [go_sem, Nat.reduceAdd, Nat.reduceSub, Nat.reduceMul, Nat.reduceLeDiff, Nat.reduceLT, Nat.reduceEqDiff, Int.reduceToNat, Int.reduceAdd, Int.reduceMul, Int.reduceSub, Int.reduceLT, Int.reduceLE, Int.reduceEq, Int.reduceNeg, Int.reduceBEq, Int.reduceBNe, ↓reduceIte, reduceCtorEq, List.length_map, hl', hw, hk2, hel, p1, p2, p3, p4, p5, g4, lA, lB, lT, l0, l1, l2, l3, l4, w1, w2, hb, hb0] <;> try simp (disch := omega) only [wrap_of])) | (refine And.intro ?_ ?_) | refine awp_skip ?_ | refine awp_ret ?_ | refine awp_exit ?_ | refine awp_label ?_ | refine awloop_step ?_ | fail)
          refine ⟨(k + 1, X5), by simp only; omega, ⟨by simp only; omega, by simp only; rw [hr, k3]⟩, ?_⟩
          simp only
          refine Wk.keepE 1 1 (by rw [hR5]; rfl) (by simp) (by intro o ho; simp only [List.mem_cons, List.not_mem_nil, or_false] at ho; subst ho; exact u5) ?_
          simp only [List.map_cons, List.map_nil, AV.low, e5, Nat.add_assoc, Nat.lt_irrefl, if_false, Fgt, true_or, or_true, and_true, true_and, Nat.lt_add_right_iff_pos, Nat.lt_add_one, if_true, eq_self]
        | cons x xs =>
          have hne : s.els ≠ [] := by rw [hel]; simp
          have hc : codeS s (at' + now.length) = codeE s.a ++ codeE s.b ++ [⟨12, ((at' + (now.length + ((codeE s.a).length + ((codeE s.b).length + (1 + ((codeSs s.thn (at' + (now.length + ((codeE s.a).length + ((codeE s.b).length + 1))))).length + 1))))) : Nat) : Int), s.rel⟩] ++ codeSs s.thn (at' + (now.length + ((codeE s.a).length + ((codeE s.b).length + 1)))) ++ [⟨13, ((at' + (now.length + ((codeE s.a).length + ((codeE s.b).length + (1 + ((codeSs s.thn (at' + (now.length + ((codeE s.a).length + ((codeE s.b).length + 1))))).length + (1 + (codeSs s.els (at' + (now.length + ((codeE s.a).length + ((codeE s.b).length + (1 + ((codeSs s.thn (at' + (now.length + ((codeE s.a).length + ((codeE s.b).length + 1))))).length + 1))))))).length)))))) : Nat) : Int), 0⟩] ++ codeSs s.els (at' + (now.length + ((codeE s.a).length + ((codeE s.b).length + (1 + ((codeSs s.thn (at' + (now.length + ((codeE s.a).length + ((codeE s.b).length + 1))))).length + 1)))))) := by
            obtain ⟨kind, var, rel, a, b, th, el⟩ := s
            simp only [St.kind, St.var, St.a, St.b, St.rel, St.thn, St.els] at *
            subst hel
            rw [codeS, if_neg hns]
            simp only [Nat.add_assoc]
          rw [hc] at k2 hln
          clear hc
          simp only [List.length_append, List.length_cons, List.length_nil] at hln
          generalize hT : codeSs s.thn (at' + (now.length + ((codeE s.a).length + ((codeE s.b).length + 1)))) = T at *
          have cU := fun H h => ih s.els hmt.2 he (at' + (now.length + ((codeE s.a).length + ((codeE s.b).length + (1 + (T.length + 1)))))) H h
          have lU : ((codeSs s.els (at' + (now.length + ((codeE s.a).length + ((codeE s.b).length + (1 + (T.length + 1))))))).map encI).length = (codeSs s.els (at' + (now.length + ((codeE s.a).length + ((codeE s.b).length + (1 + (T.length + 1))))))).length := by simp
          generalize hU : codeSs s.els (at' + (now.length + ((codeE s.a).length + ((codeE s.b).length + (1 + (T.length + 1)))))) = U at *
          have p4 := pR_app (now ++ codeE s.a ++ codeE s.b ++ [(⟨12, 0, s.rel⟩ : Ins)]) T
          have l4 := pR_len (now ++ codeE s.a ++ codeE s.b ++ [(⟨12, 0, s.rel⟩ : Ins)] ++ T)
          simp only [List.length_append, List.length_cons, List.length_nil, Nat.add_assoc, Nat.zero_add] at l4
          have p5 := pR_one (now ++ codeE s.a ++ codeE s.b ++ [(⟨12, 0, s.rel⟩ : Ins)] ++ T) 13 0 0
          have l5 := pR_len (now ++ codeE s.a ++ codeE s.b ++ [(⟨12, 0, s.rel⟩ : Ins)] ++ T ++ [(⟨13, 0, 0⟩ : Ins)])
          simp only [List.length_append, List.length_cons, List.length_nil, Nat.add_assoc, Nat.zero_add] at l5
          have g5 := pR_get (X := now ++ codeE s.a ++ codeE s.b ++ [(⟨12, 0, s.rel⟩ : Ins)] ++ T ++ [(⟨13, 0, 0⟩ : Ins)]) (k := (now.length + (codeE s.a).length + (codeE s.b).length)) (x := ⟨12, 0, s.rel⟩) (by rw [← List.length_append, ← List.length_append]; simp)
          have p6 := pR_set (now ++ codeE s.a ++ codeE s.b ++ [(⟨12, 0, s.rel⟩ : Ins)] ++ T ++ [(⟨13, 0, 0⟩ : Ins)]) (now.length + (codeE s.a).length + (codeE s.b).length) ⟨12, ((at' + (now.length + ((codeE s.a).length + ((codeE s.b).length + (1 + (T.length + 1))))) : Nat) : Int), s.rel⟩
          have v6 : (now ++ codeE s.a ++ codeE s.b ++ [(⟨12, 0, s.rel⟩ : Ins)] ++ T ++ [(⟨13, 0, 0⟩ : Ins)]).set (now.length + (codeE s.a).length + (codeE s.b).length) ⟨12, ((at' + (now.length + ((codeE s.a).length + ((codeE s.b).length + (1 + (T.length + 1))))) : Nat) : Int), s.rel⟩ = now ++ codeE s.a ++ codeE s.b ++ [(⟨12, ((at' + (now.length + ((codeE s.a).length + ((codeE s.b).length + (1 + (T.length + 1))))) : Nat) : Int), s.rel⟩ : Ins)] ++ T ++ [(⟨13, 0, 0⟩ : Ins)] := by rw [← List.length_append, ← List.length_append]; simp
          rw [v6] at p6
          have l6 := pR_len (now ++ codeE s.a ++ codeE s.b ++ [(⟨12, ((at' + (now.length + ((codeE s.a).length + ((codeE s.b).length + (1 + (T.length + 1))))) : Nat) : Int), s.rel⟩ : Ins)] ++ T ++ [(⟨13, 0, 0⟩ : Ins)])
          simp only [List.length_append, List.length_cons, List.length_nil, Nat.add_assoc, Nat.zero_add] at l6
          have p7 := pR_app (now ++ codeE s.a ++ codeE s.b ++ [(⟨12, ((at' + (now.length + ((codeE s.a).length + ((codeE s.b).length + (1 + (T.length + 1))))) : Nat) : Int), s.rel⟩ : Ins)] ++ T ++ [(⟨13, 0, 0⟩ : Ins)]) U
          have l7 := pR_len (now ++ codeE s.a ++ codeE s.b ++ [(⟨12, ((at' + (now.length + ((codeE s.a).length + ((codeE s.b).length + (1 + (T.length + 1))))) : Nat) : Int), s.rel⟩ : Ins)] ++ T ++ [(⟨13, 0, 0⟩ : Ins)] ++ U)
          simp only [List.length_append, List.length_cons, List.length_nil, Nat.add_assoc, Nat.zero_add] at l7
          have k4 : (now ++ codeE s.a ++ codeE s.b ++ [(⟨12, ((at' + (now.length + ((codeE s.a).length + ((codeE s.b).length + (1 + (T.length + 1))))) : Nat) : Int), s.rel⟩ : Ins)] ++ T).length = (now.length + ((codeE s.a).length + ((codeE s.b).length + (1 + T.length)))) := by simp only [List.length_append, List.length_cons, List.length_nil]; omega
          have g7 := pR_get (X := now ++ codeE s.a ++ codeE s.b ++ [(⟨12, ((at' + (now.length + ((codeE s.a).length + ((codeE s.b).length + (1 + (T.length + 1))))) : Nat) : Int), s.rel⟩ : Ins)] ++ T ++ [(⟨13, 0, 0⟩ : Ins)] ++ U) (k := (now.length + ((codeE s.a).length + ((codeE s.b).length + (1 + T.length))))) (x := ⟨13, 0, 0⟩) (by rw [← k4]; simp)
          have p8 := pR_set (now ++ codeE s.a ++ codeE s.b ++ [(⟨12, ((at' + (now.length + ((codeE s.a).length + ((codeE s.b).length + (1 + (T.length + 1))))) : Nat) : Int), s.rel⟩ : Ins)] ++ T ++ [(⟨13, 0, 0⟩ : Ins)] ++ U) (now.length + ((codeE s.a).length + ((codeE s.b).length + (1 + T.length)))) ⟨13, ((at' + (now.length + ((codeE s.a).length + ((codeE s.b).length + (1 + (T.length + (1 + U.length)))))) : Nat) : Int), 0⟩
          have v8 : (now ++ codeE s.a ++ codeE s.b ++ [(⟨12, ((at' + (now.length + ((codeE s.a).length + ((codeE s.b).length + (1 + (T.length + 1))))) : Nat) : Int), s.rel⟩ : Ins)] ++ T ++ [(⟨13, 0, 0⟩ : Ins)] ++ U).set (now.length + ((codeE s.a).length + ((codeE s.b).length + (1 + T.length)))) ⟨13, ((at' + (now.length + ((codeE s.a).length + ((codeE s.b).length + (1 + (T.length + (1 + U.length)))))) : Nat) : Int), 0⟩ = now ++ codeE s.a ++ codeE s.b ++ [(⟨12, ((at' + (now.length + ((codeE s.a).length + ((codeE s.b).length + (1 + (T.length + 1))))) : Nat) : Int), s.rel⟩ : Ins)] ++ T ++ [(⟨13, ((at' + (now.length + ((codeE s.a).length + ((codeE s.b).length + (1 + (T.length + (1 + U.length)))))) : Nat) : Int), 0⟩ : Ins)] ++ U := by
            rw [← k4, List.append_assoc (now ++ codeE s.a ++ codeE s.b ++ [(⟨12, ((at' + (now.length + ((codeE s.a).length + ((codeE s.b).length + (1 + (T.length + 1))))) : Nat) : Int), s.rel⟩ : Ins)] ++ T), List.set_append_right (h := Nat.le_refl _), Nat.sub_self]; simp
          rw [v8] at p8
          have u8 := under_pvRows (m := H0.length + 1) (t := 41) (sz := 3) ((now ++ codeE s.a ++ codeE s.b ++ [(⟨12, ((at' + (now.length + ((codeE s.a).length + ((codeE s.b).length + (1 + (T.length + 1))))) : Nat) : Int), s.rel⟩ : Ins)] ++ T ++ [(⟨13, ((at' + (now.length + ((codeE s.a).length + ((codeE s.b).length + (1 + (T.length + (1 + U.length)))))) : Nat) : Int), 0⟩ : Ins)] ++ U).map encI)
          have k3 : (now ++ codeE s.a ++ codeE s.b ++ [(⟨12, ((at' + (now.length + ((codeE s.a).length + ((codeE s.b).length + (1 + (T.length + 1))))) : Nat) : Int), s.rel⟩ : Ins)] ++ T ++ [(⟨13, ((at' + (now.length + ((codeE s.a).length + ((codeE s.b).length + (1 + (T.length + (1 + U.length)))))) : Nat) : Int), 0⟩ : Ins)] ++ U) ++ codeSs ss (at' + (now ++ codeE s.a ++ codeE s.b ++ [(⟨12, ((at' + (now.length + ((codeE s.a).length + ((codeE s.b).length + (1 + (T.length + 1))))) : Nat) : Int), s.rel⟩ : Ins)] ++ T ++ [(⟨13, ((at' + (now.length + ((codeE s.a).length + ((codeE s.b).length + (1 + (T.length + (1 + U.length)))))) : Nat) : Int), 0⟩ : Ins)] ++ U).length) = codeSs l at' := by rw [← k2]; simp [Nat.add_assoc]
          have e8 : (now ++ codeE s.a ++ codeE s.b ++ [(⟨12, ((at' + (now.length + ((codeE s.a).length + ((codeE s.b).length + (1 + (T.length + 1))))) : Nat) : Int), s.rel⟩ : Ins)] ++ T ++ [(⟨13, ((at' + (now.length + ((codeE s.a).length + ((codeE s.b).length + (1 + (T.length + (1 + U.length)))))) : Nat) : Int), 0⟩ : Ins)] ++ U).length = (now.length + ((codeE s.a).length + ((codeE s.b).length + (1 + (T.length + (1 + U.length)))))) := by simp only [List.length_append, List.length_cons, List.length_nil]; omega
          clear k2 v6 v8 k4
          simp only [Ins.op, Ins.n, Ins.rel, Nat.add_assoc] at g5 p6 g7 p8
          generalize now ++ codeE s.a ++ codeE s.b ++ [(⟨12, ((at' + (now.length + ((codeE s.a).length + ((codeE s.b).length + (1 + (T.length + 1))))) : Nat) : Int), s.rel⟩ : Ins)] ++ T ++ [(⟨13, ((at' + (now.length + ((codeE s.a).length + ((codeE s.b).length + (1 + (T.length + (1 + U.length)))))) : Nat) : Int), 0⟩ : Ins)] ++ U = X8 at *
          generalize now ++ codeE s.a ++ codeE s.b ++ [(⟨12, ((at' + (now.length + ((codeE s.a).length + ((codeE s.b).length + (1 + (T.length + 1))))) : Nat) : Int), s.rel⟩ : Ins)] ++ T ++ [(⟨13, 0, 0⟩ : Ins)] ++ U = X7 at *
          generalize now ++ codeE s.a ++ codeE s.b ++ [(⟨12, ((at' + (now.length + ((codeE s.a).length + ((codeE s.b).length + (1 + (T.length + 1))))) : Nat) : Int), s.rel⟩ : Ins)] ++ T ++ [(⟨13, 0, 0⟩ : Ins)] = X6 at *
          generalize now ++ codeE s.a ++ codeE s.b ++ [(⟨12, 0, s.rel⟩ : Ins)] ++ T ++ [(⟨13, 0, 0⟩ : Ins)] = X5 at *
          generalize now ++ codeE s.a ++ codeE s.b ++ [(⟨12, 0, s.rel⟩ : Ins)] ++ T = X4 at *
          generalize now ++ codeE s.a ++ codeE s.b ++ [(⟨12, 0, s.rel⟩ : Ins)] = X3 at *
          generalize now ++ codeE s.a ++ codeE s.b = X2 at *
          generalize now ++ codeE s.a = X1 at *
          generalize T.map encI = TT at *
          generalize U.map encI = UU at *
          generalize (codeE s.a).map encI = A at *
          generalize (codeE s.b).map encI = B at *
          generalize (codeE s.a).length = na at *
          generalize (codeE s.b).length = nb at *
          generalize T.length = nt at *
          generalize U.length = nu at *
          generalize hR8 : pR X8 = R8 at *
          generalize pR X7 = R7 at *
          generalize pR X6 = R6 at *
          generalize pR X5 = R5 at *
          generalize pR X4 = R4 at *
          generalize pR X3 = R3 at *
          generalize pR X2 = R2 at *
          generalize pR X1 = R1 at *
          generalize pR now = R0 at *
          generalize hnl : now.length = m at *
          have cA' := fun H => cA H (by omega)
          have cB' := fun H => cB H (by omega)
          have cT' := fun H => cT H (by omega)
          have cU' := fun H => cU H (by omega)
          have w1 : IntKind.i64.wrap ((at' : Int) + ((m + (na + (nb + 1)) : Nat) : Int)) = ((at' + (m + (na + (nb + 1))) : Nat) : Int) := by rw [wrap_of (by omega) (by omega)]; omega
          have w2 : IntKind.i64.wrap ((at' : Int) + ((m + (na + (nb + (1 + (nt + 1)))) : Nat) : Int)) = ((at' + (m + (na + (nb + (1 + (nt + 1))))) : Nat) : Int) := by rw [wrap_of (by omega) (by omega)]; omega
          have w3 : IntKind.i64.wrap ((at' : Int) + ((m + (na + (nb + (1 + (nt + (1 + nu))))) : Nat) : Int)) = ((at' + (m + (na + (nb + (1 + (nt + (1 + nu)))))) : Nat) : Int) := by rw [wrap_of (by omega) (by omega)]; omega
          have hel0 : 0 < s.els.length := List.length_pos_iff.2 hne
          have hbig : at' + (m + (na + (nb + (1 + (nt + (1 + nu)))))) ≤ 1000000000 := by omega
          clear cA cB cT cU ih hlen hln hmm hmi hmt nA nB hlen2 hN
          repeat' (first | refine awp_seq ?_ | refine awp_block ?_ | refine awp_scope ?_ | ((first | refine awp_region_k fun Kn Kp hn hp => ?_ | refine oge_intro (by assumption) ?_ | (show AWE _ _ _ _ _ _ _ _ _; first | refine awe_intro (cA' _) ?_ | refine awe_intro (cB' _) ?_ | refine awe_intro (cT' _) ?_ | refine awe_intro (cU' _) ?_) | (show AWSF _ _ _ _ _ _ _ _ _ _ _; first | refine awsf_intro (cA' _) (fun hrun => ?_) | refine awsf_intro (cB' _) (fun hrun => ?_) | refine awsf_intro (cT' _) (fun hrun => ?_) | refine awsf_intro (cU' _) (fun hrun => ?_)) | (show OGE _ _ _ _ _ _ _; first | refine oge_intro (cA' _) ?_ | refine oge_intro (cB' _) ?_ | refine oge_intro (cT' _) ?_ | refine oge_intro (cU' _) ?_) | (show AWSE _ _ _ _ _ _ _ _ _ _ _; first | refine awse_intro (cA' _) (fun hrun => ?_) | refine awse_intro (cB' _) (fun hrun => ?_) | refine awse_intro (cT' _) (fun hrun => ?_) | refine awse_intro (cU' _) (fun hrun => ?_)) | (show PGE _ _ _ _ _; first | refine pge_intro (cA' _) (fun tm' => ?_) | refine pge_intro (cB' _) (fun tm' => ?_) | refine pge_intro (cT' _) (fun tm' => ?_) | refine pge_intro (cU' _) (fun tm' => ?_))) <;> (simp only [go_sem, Nat.reduceAdd, Nat.reduceSub, Nat.reduceMul, Nat.reduceLeDiff, Nat.reduceLT, Nat.reduceEqDiff, Int.reduceToNat, Int.reduceAdd, Int.reduceMul, Int.reduceSub, Int.reduceLT, Int.reduceLE, Int.reduceEq, Int.reduceNeg, Int.reduceBEq, Int.reduceBNe, ↓reduceIte, reduceCtorEq, List.length_map, hl', hw, hk2, p1, p2, p3, p4, p5, p6, p7, p8, g5, g7, lA, lB, lT, lU, l0, l1, l2, l3, l4, l5, l6, l7, w1, w2, w3] <;> try simp (disch := omega) only [wrap_of])) | (refine hn _ _ ?_; clear hn hp Kn Kp) | (refine hp _ _ _ ?_; clear hn hp Kn Kp) | (simp (disch := omega) only [getSkip16, setSkip16, getAt1, setAt1, getAt2, setAt2, getAt3, setAt3, getAt4, setAt4, getAt5, setAt5, getAt6, setAt6, getAt7, setAt7, getAt8, setAt8, getAt9, setAt9, getAt10, setAt10, getAt11, setAt11, getAt12, setAt12, getAt13, setAt13, getAt14, setAt14, getAt15, setAt15, go_sem, Nat.reduceAdd, Nat.reduceSub, Nat.reduceMul, Nat.reduceLeDiff, Nat.reduceLT, Nat.reduceEqDiff, Int.reduceToNat, Int.reduceAdd, Int.reduceMul, Int.reduceSub, Int.reduceLT, Int.reduceLE, Int.reduceEq, Int.reduceNeg, Int.reduceBEq, Int.reduceBNe, ↓reduceIte, reduceCtorEq, List.length_map, hl', hw, hk2, p1, p2, p3, p4, p5, p6, p7, p8, g5, g7, lA, lB, lT, lU, l0, l1, l2, l3, l4, l5, l6, l7, w1, w2, w3, if_pos, if_neg, decide_pos', decide_neg', beq_pos', beq_neg', bne_pos', bne_neg', getE, wrap_of]) | (refine awp_cond_t rfl (by first | with_reducible rfl | (simp only [Bool.and_eq_true, Bool.or_eq_true, Bool.and_eq_false_iff, Bool.or_eq_false_iff, decide_eq_true_eq, decide_eq_false_iff_not, beq_iff_eq, bne_iff_ne, bne_eq_false_iff_eq, beq_eq_false_iff_ne, ne_eq, Bool.not_eq_true', Bool.not_eq_false', not_true_eq_false, not_false_eq_true]; omega)) ?_) | (refine awp_cond_f rfl (by first | with_reducible rfl | (simp only [Bool.and_eq_true, Bool.or_eq_true, Bool.and_eq_false_iff, Bool.or_eq_false_iff, decide_eq_true_eq, decide_eq_false_iff_not, beq_iff_eq, bne_iff_ne, bne_eq_false_iff_eq, beq_eq_false_iff_ne, ne_eq, Bool.not_eq_true', Bool.not_eq_false', not_true_eq_false, not_false_eq_true]; omega)) ?_) | (refine awp_cond rfl (fun hb => ?_) (fun hb => ?_) <;> (try simp only [decide_eq_true_eq, decide_eq_false_iff_not, Bool.not_eq_true', Bool.not_eq_false', Bool.true_eq_false, Bool.false_eq_true, beq_iff_eq, bne_iff_ne, Bool.or_eq_true, Bool.and_eq_true, Bool.or_eq_false_iff, Bool.and_eq_false_iff, bne_eq_false_iff_eq, beq_eq_false_iff_ne, gt_iff_lt, ge_iff_le, Int.reduceEq, Int.reduceNe, Int.reduceLT, Int.reduceLE, ne_eq, not_true_eq_false, not_false_eq_true] at hb)) | ((first | refine awg_split (fun hb => ?_) (fun hb => ?_) | refine awsg_split (fun hb => ?_) (fun hb => ?_)) <;> have hb0 := hb <;> (try simp only [decide_eq_true_eq, decide_eq_false_iff_not, Bool.not_eq_true', Bool.not_eq_false', Bool.true_eq_false, Bool.false_eq_true, beq_iff_eq, bne_iff_ne, Bool.or_eq_true, Bool.and_eq_true, Bool.or_eq_false_iff, Bool.and_eq_false_iff, bne_eq_false_iff_eq, beq_eq_false_iff_ne, gt_iff_lt, ge_iff_le, Int.reduceEq, Int.reduceNe, Int.reduceLT, Int.reduceLE, ne_eq, not_true_eq_false, not_false_eq_true] at hb0) <;> (try simp only [beq_true, beq_false, Bool.not_eq_true', Bool.not_eq_false'] at hb) <;> (simp only [go_sem, Nat.reduceAdd, Nat.reduceSub, Nat.reduceMul, Nat.reduceLeDiff, Nat.reduceLT, Nat.reduceEqDiff, Int.reduceToNat, Int.reduceAdd, Int.reduceMul, Int.reduceSub, Int.reduceLT, Int.reduceLE, Int.reduceEq, Int.reduceNeg, Int.reduceBEq, Int.reduceBNe, ↓reduceIte, reduceCtorEq, List.length_map, hl', hw, hk2, p1, p2, p3, p4, p5, p6, p7, p8, g5, g7, lA, lB, lT, lU, l0, l1, l2, l3, l4, l5, l6, l7, w1, w2, w3, hb, hb0] <;> try simp (disch := omega) only [wrap_of])) | (refine And.intro ?_ ?_) | refine awp_skip ?_ | refine awp_ret ?_ | refine awp_exit ?_ | refine awp_label ?_ | refine awloop_step ?_ | fail)
          refine ⟨(k + 1, X8), by simp only; omega, ⟨by simp only; omega, by simp only; rw [hr, k3]⟩, ?_⟩
          simp only
          refine Wk.keepE 1 1 (by rw [hR8]; rfl) (by simp) (by intro o ho; simp only [List.mem_cons, List.not_mem_nil, or_false] at ho; subst ho; exact u8) ?_
          simp only [List.map_cons, List.map_nil, AV.low, e8, Nat.add_assoc, Nat.lt_irrefl, if_false, Fgt, true_or, or_true, and_true, true_and, Nat.lt_add_right_iff_pos, Nat.lt_add_one, if_true, eq_self]
end Go.Proofs.Ytiifbdkedainnaa.Y

/- A call may first be given an own empty row for a nil slice in a cell. -/
set_option linter.unusedVariables false
set_option linter.unusedSectionVars false
namespace Go.Proofs.Ytiifbdkedainnaa.AL
variable [G : GTab]
/-- What may be done to the memory before a step may be done before a call. -/
theorem ARun.wk {P : Program} {f : FuncId} {args args' : List AV} {H H' : List AObj} {out : AOut} (hw : Wk H args H args' H') (h : ARun P f args' H' out) : ARun P f args H out := by
  refine ⟨h.call, fun w B S vs hr ha => ?_⟩
  obtain ⟨B1, S1, s⟩ := hw w B S [] ⟨vs.toArray, []⟩ w B S ⟨hr, Step.refl _ _ _ _, hr, by simpa using ha, rfl⟩
  refine (h.run w B1 S1 vs s.hrel (by simpa using s.tmps)).mono ?_
  rintro e w' ⟨B', S', st, hr', he⟩
  exact ⟨B', S', s.step.trans st, hr', he⟩
theorem ARun.ghostO {P : Program} {f : FuncId} {args : List AV} {H : List AObj} {out : AOut} (id j : Nat) (t : TypeId) {sz : Nat} {tt : TypeId} {cs : List AV} (hsz : 0 < sz) (hid : H[id]? = some (.cells tt cs)) (hj : cs[j]? = some (.pv (.sc (.slice none 0 0))))
    (h : ARun P f args (H.set id (.cells tt (cs.set j (.os H.length 0 0 0))) ++ [.arr t sz []]) out) : ARun P f args H out :=
  ARun.wk (Wk.ghostO id j t hsz hid hj) h
end Go.Proofs.Ytiifbdkedainnaa.AL

set_option maxHeartbeats 8000000
set_option maxRecDepth 100000
set_option linter.unusedVariables false
set_option linter.unusedSimpArgs false
set_option linter.unusedSectionVars false
namespace Go.Proofs.Ytiifbdkedainnaa.Y
open Go.Proofs.Ytiifbdkedainnaa.AL Go.Proofs Go
attribute [local irreducible] AWP AWL AWG AWR AWE AWX AWO AWSeq AWSG AWSR AWSO AWSE AWSF GoodP OGW OGR OGE OGX PGW PGR PGE Wk AWLoop AWPD AWLD

/-- A writer without a row yet. -/
theorem wstmts0_run {vs : List Un} (wid : Nat) (l : List St) (hv : stSL vs l = 0) (hlen : (codeSs l 0).length ≤ 1000000000) (hm : manyL l ≤ 1000000000) (H0 : List AObj)
    (hw : H0[wid]? = some (.cells 58 [.pv (.sc (.slice none 0 0))])) :
    ARun Try.prog 26 [.p wid 0, .rs 13 (l.map encS)] H0 (.ret (.tup []) (H0.set wid (wC H0.length (codeSs l 0).length) ++ [iR (codeSs l 0)])) := by
  have hwl := (List.getElem?_eq_some_iff.1 hw).1
  refine ARun.ghostO wid 0 41 (sz := 3) (by decide) hw rfl ?_
  have hW : Wr wid H0.length (H0.set wid (.cells 58 [.os H0.length 0 0 0]) ++ [.arr 41 3 []]) [] := by
    refine ⟨by omega, ?_, ?_⟩
    · rw [List.getElem?_append_left (by simpa using hwl)]; exact getSet hw _
    · rw [List.getElem?_append_right (by simp)]; simp [pvRows]
  have := wstmts_run (vs := vs) wid H0.length (manyL l) l (Nat.le_refl _) hv [] _ (by simpa using hlen) hm hW
  have e : mW wid H0.length (H0.set wid (.cells 58 [.os H0.length 0 0 0]) ++ [.arr 41 3 []]) ([] ++ codeSs l ([] : List Ins).length) = H0.set wid (wC H0.length (codeSs l 0).length) ++ [iR (codeSs l 0)] := by
    unfold mW
    rw [List.set_append_right (h := by simp), List.set_append_left (h := by simpa using hwl), List.set_set]
    simp
  rw [e] at this
  exact this
end Go.Proofs.Ytiifbdkedainnaa.Y

set_option maxHeartbeats 8000000
set_option maxRecDepth 100000
set_option linter.unusedVariables false
set_option linter.unusedSimpArgs false
set_option linter.unusedSectionVars false
namespace Go.Proofs.Ytiifbdkedainnaa.Y
open Go.Proofs.Ytiifbdkedainnaa.AL Go.Proofs Go
attribute [local irreducible] AWP AWL AWG AWR AWE AWX AWO AWSeq AWSG AWSR AWSO AWSE AWSF GoodP OGW OGR OGE OGX PGW PGR PGE Wk AWLoop AWPD AWLD

theorem CValid_run (p : Prg) (hl : p.vars.length ≤ 1000000) (hok : okP p) (hz : p.name.size ≤ 2000000) (hzv : ∀ v ∈ p.vars, v.name.size ≤ 2000000) (H0 : List AObj) :
    ARun Try.prog 25 [.ag (cP p)] H0 (.ret (.b (validB p)) H0) := by
  rw [← ctlB_eq]
  have n1 := fun H0 => nameC_run p.name hz H0
  by_cases hlen : 1 ≤ p.vars.length ∧ p.vars.length ≤ 12
  · obtain ⟨len1, len2⟩ := hlen
    cases hnm : nameB p.name with
    | false =>
      rw [hnm] at n1
      have hr : ctlB p = false := by unfold ctlB; rw [hnm]; simp
      rw [hr]
      clear hr
      (refine ARun.intro Try.func25 rfl Try.call25 Try.ntmps25 Try.results25 ?_; simp only [List.length_cons, List.length_nil, List.length_map, Nat.reduceAdd, Nat.reduceSub, List.replicate_succ, List.replicate_zero, List.cons_append, List.nil_append])
      (have cc1 := fun z1 => n1 z1; refine wkO ?_; clear cc1; (repeat' first | exact True.intro | refine Lf.mk ?_ ?_); all_goals intro hP)
      (refine resX ?_; try exact True.intro)
    | true =>
      rw [hnm] at n1
      have hr : ctlB p = (onceC p.vars [] && (decide ((checkS p).1 < 0) && (decide ((checkS p).2 = 0) && (usesB p.vars p.window 1 && (decide (p.pace = -1) || usesB p.vars p.pace 4))))) := by
        unfold ctlB; rw [hnm, decide_eq_true len1, decide_eq_true len2]; simp
      rw [hr]
      clear hr
      have c1 := fun H0 => Check_run p hl hok H0
      have c2 := fun H0 => hasUnit_run p.vars p.window 1 (by omega) H0
      have c3 := fun H0 => hasUnit_run p.vars p.pace 4 (by omega) H0
      have zb := zeroBool
      (refine ARun.intro Try.func25 rfl Try.call25 Try.ntmps25 Try.results25 ?_; simp only [List.length_cons, List.length_nil, List.length_map, Nat.reduceAdd, Nat.reduceSub, List.replicate_succ, List.replicate_zero, List.cons_append, List.nil_append])
      (have cc1 := fun z1 => n1 z1; refine wkO ?_; clear cc1; (repeat' first | exact True.intro | refine Lf.mk ?_ ?_); all_goals intro hP)
      refine awp_loop_ind (σ := Nat) (fun k => p.vars.length - k) (fun k => k ≤ p.vars.length ∧ onceC p.vars [] = onceC (p.vars.drop k) ((p.vars.take k).map (·.name)))
        (fun k => (.any :: .p H0.length 0 :: .any :: .mp (H0.length + 1) :: .any :: .any :: .any :: .any :: .any :: .any :: .any :: .any :: .any :: .any :: .any :: .any :: .any :: .any :: .any :: .any :: .any :: .any :: .any :: .any :: .any :: .any :: .rs 5 (p.vars.map encV) :: .i p.vars.length :: .i k :: .any :: .any :: .any :: .any :: .any :: .any :: .any :: .any :: .any :: .any :: .any :: .any :: .any :: .any :: .any :: .any :: .any :: .any :: .any :: .any :: .any :: .any :: .any :: .any :: .any :: .any :: .any :: .any :: .any :: .any :: .any :: .any :: .any :: .any :: .any :: .any :: .any :: .any :: .any :: .any :: .any :: .any :: .any :: .any :: .any :: .any :: .any :: .any :: .any :: .any :: .any :: .any :: .any :: .any :: .any :: .any :: .any :: .any :: .any :: .any :: .any :: .any :: .any :: .any :: .any :: .any :: .any :: .any :: .any :: .any :: .any :: []))
        (fun k => H0 ++ [.cells 26 ((cP p).map AV.pv), .smap (seenM ((p.vars.take k).map (·.name)))]) 0 ⟨Nat.zero_le _, by simp⟩ (by (refine fgtX ?_; try exact True.intro)) ?_
      rintro k ⟨k1, k2⟩
      have hw : IntKind.i64.wrap ((k : Int) + 1) = ((k + 1 : Nat) : Int) := by rw [wrap_of (by omega) (by omega)]; omega
      cases hd : p.vars.drop k with
      | nil =>
        have hk : p.vars.length ≤ k := List.drop_eq_nil_iff.1 hd
        rw [hd] at k2
        rw [k2, show onceC [] ((p.vars.take k).map (·.name)) = true from rfl, Bool.true_and]
        clear k2 zb
        have hans : ∀ x, ansC x = .tup [.i x.1, .i x.2] := fun x => rfl
        generalize hS : seenM ((p.vars.take k).map (·.name)) = S
        generalize checkS p = c at c1 ⊢
        cases hu1 : usesB p.vars p.window 1 <;> cases hu2 : usesB p.vars p.pace 4
        all_goals
          rw [hu1] at c2
          rw [hu2] at c3
          (have ww1 := hans; have cc1 := fun z1 => c1 z1; have cc2 := fun z1 => c2 z1; have cc3 := fun z1 => c3 z1; refine wkO ?_; clear ww1 cc1 cc2 cc3; (repeat' first | exact True.intro | refine Lf.mk ?_ ?_); all_goals intro hP)
          all_goals clear c1 c2 c3 n1
          all_goals ((refine resX ?_; try exact True.intro))
          all_goals (refine congrArg (fun b => AV.pv (PV.sc (Value.bool b))) ?_; rw [Bool.eq_iff_iff]; simp <;> omega)
      | cons v r =>
        have hk : k < p.vars.length := by have := congrArg List.length hd; simp at this; omega
        rw [hd] at k2
        obtain ⟨hvk, _, hr, hm⟩ := drop_cons hd
        have hl' : (p.vars.map encV)[k]? = some (cV v) := by rw [List.getElem?_map, hvk]; rfl
        have n2 := fun H0 => nameC_run v.name (hzv v hm) H0
        have hsn : (p.vars.take (k + 1)).map (·.name) = (p.vars.take k).map (·.name) ++ [v.name] := by
          rw [List.take_add_one, hvk]; simp
        have hlk := lookS_seen ((p.vars.take k).map (·.name)) v.name (.bool false)
        cases hin : inB ((p.vars.take k).map (·.name)) v.name with
        | true =>
          rw [hin, if_pos rfl] at hlk
          have hf : onceC p.vars [] = false := by rw [k2, onceC, hin]; rfl
          rw [hf, Bool.false_and]
          (have ww1 := hl'; have ww2 := hlk; have ww3 := zb; have cc1 := fun z1 => n2 z1; refine wkO ?_; clear ww1 ww2 ww3 cc1; (repeat' first | exact True.intro | refine Lf.mk ?_ ?_); all_goals intro hP)
          (refine resX ?_; try exact True.intro)
        | false =>
          rw [hin, if_neg Bool.false_ne_true] at hlk
          have hput := putS_seen ((p.vars.take k).map (·.name)) v.name hin
          rw [← hsn] at hput
          rw [onceC, hin, ← hsn] at k2
          cases hn2 : nameB v.name with
          | false =>
            rw [hn2] at n2
            have hf : onceC p.vars [] = false := by rw [k2, varC, hn2]; simp
            rw [hf, Bool.false_and]
            (have ww1 := hl'; have ww2 := hlk; have ww3 := zb; have cc1 := fun z1 => n2 z1; refine wkO ?_; clear ww1 ww2 ww3 cc1; (repeat' first | exact True.intro | refine Lf.mk ?_ ?_); all_goals intro hP)
            (refine resX ?_; try exact True.intro)
          | true =>
            rw [hn2] at n2
            have hvc : varC v = decide (0 ≤ v.low ∧ v.low ≤ v.init ∧ v.init ≤ v.high ∧ v.high ≤ 1000000000) := by unfold varC; rw [hn2, Bool.true_and]
            (have ww1 := hl'; have ww2 := hlk; have ww3 := zb; have ww4 := hput; have ww5 := hw; have cc1 := fun z1 => n2 z1; refine wkO ?_; clear ww1 ww2 ww3 ww4 ww5 cc1; (repeat' first | exact True.intro | refine Lf.mk ?_ ?_); all_goals intro hP)
            all_goals first
              | (refine ⟨k + 1, by omega, ⟨by omega, k2.trans (by rw [hvc, decide_eq_true (by omega), hr, Bool.not_false, Bool.true_and, Bool.true_and])⟩, ?_⟩; refine Wk.keepE 2 1 rfl (by simp) ?_ ?_; (intro o ho; simp only [List.mem_cons, List.not_mem_nil, or_false] at ho; rcases ho with rfl | rfl; (simp [AObj.under, AV.under]); (trivial)); (simp only [List.map_cons, List.map_nil, AV.low, List.length_append, List.length_cons, List.length_nil, Nat.lt_irrefl, if_false, Fgt, Int.natCast_zero, Int.cast_ofNat_Int, Int.ofNat_eq_natCast, true_or, or_true, true_and, and_true, and_self, eq_self]; simp); done)
              | ((refine resX ?_; try exact True.intro); rw [k2, hvc, decide_eq_false (by omega)]; simp; done)
  · have hr : ctlB p = false := by
      unfold ctlB
      by_cases h : 1 ≤ p.vars.length
      · rw [decide_eq_false (show ¬ p.vars.length ≤ 12 by omega)]; simp
      · rw [decide_eq_false h]; simp
    rw [hr]
    clear hr
    cases hnm : nameB p.name
    all_goals
      rw [hnm] at n1
      (refine ARun.intro Try.func25 rfl Try.call25 Try.ntmps25 Try.results25 ?_; simp only [List.length_cons, List.length_nil, List.length_map, Nat.reduceAdd, Nat.reduceSub, List.replicate_succ, List.replicate_zero, List.cons_append, List.nil_append])
      (have cc1 := fun z1 => n1 z1; refine wkO ?_; clear cc1; (repeat' first | exact True.intro | refine Lf.mk ?_ ?_); all_goals intro hP)
      all_goals ((refine resX ?_; try exact True.intro))
end Go.Proofs.Ytiifbdkedainnaa.Y

set_option maxHeartbeats 8000000
set_option maxRecDepth 100000
set_option linter.unusedVariables false
set_option linter.unusedSimpArgs false
set_option linter.unusedSectionVars false
namespace Go.Proofs.Ytiifbdkedainnaa.Y
open Go.Proofs.Ytiifbdkedainnaa.AL Go.Proofs Go
attribute [local irreducible] AWP AWL AWG AWR AWE AWX AWO AWSeq AWSG AWSR AWSO AWSE AWSF GoodP OGW OGR OGE OGX PGW PGR PGE Wk AWLoop AWPD AWLD

def cod0 : Cod := ⟨[], [], [], [], []⟩
/-- The compiler. -/
def compS (p : Prg) : Cod × Int :=
  if validB p = true then
    (if (codeSs p.on0 0).length ≤ 4000 ∧ (codeSs p.on1 0).length ≤ 4000 ∧ (codeSs p.on2 0).length ≤ 4000 ∧ (codeSs p.on3 0).length ≤ 4000 ∧ (codeSs p.on4 0).length ≤ 4000
      then (⟨codeSs p.on0 0, codeSs p.on1 0, codeSs p.on2 0, codeSs p.on3 0, codeSs p.on4 0⟩, 0) else (cod0, 2))
  else (cod0, 1)
theorem CCompile_bad (p : Prg) (hl : p.vars.length ≤ 1000000) (hok : okP p) (hz : p.name.size ≤ 2000000) (hzv : ∀ v ∈ p.vars, v.name.size ≤ 2000000) (hv : validB p = false) (H0 : List AObj) :
    ARun Try.prog 13 [.ag (cP p)] H0 (.ret (.tup [.ag (cC (compS p).1), .i (compS p).2]) H0) := by
  have c1 := fun H0 => CValid_run p hl hok hz hzv H0
  rw [hv] at c1
  have e : compS p = (cod0, 1) := by unfold compS; rw [hv]; rfl
  rw [e]
  (refine ARun.intro Try.func13 rfl Try.call13 Try.ntmps13 Try.results13 ?_; simp only [List.length_cons, List.length_nil, List.length_map, Nat.reduceAdd, Nat.reduceSub, List.replicate_succ, List.replicate_zero, List.cons_append, List.nil_append])
  (have cc1 := fun z1 => c1 z1; refine wkS ?_; clear cc1; (repeat' first | exact True.intro | refine Lf.mk ?_ ?_); all_goals intro hP)
  refine ⟨_, rfl, _, rfl, Fin.pureC 2 ?_⟩
  simp only [AV.low, List.map_cons, List.map_nil, cod0]
  exact Cv.tup ⟨Cv.agg ⟨Cv.nil (by decide), Cv.nil (by decide), Cv.nil (by decide), Cv.nil (by decide), Cv.nil (by decide), trivial⟩, Cv.refl _, trivial⟩
end Go.Proofs.Ytiifbdkedainnaa.Y

set_option maxHeartbeats 8000000
set_option maxRecDepth 100000
set_option linter.unusedVariables false
set_option linter.unusedSimpArgs false
set_option linter.unusedSectionVars false
namespace Go.Proofs.Ytiifbdkedainnaa.Y
open Go.Proofs.Ytiifbdkedainnaa.AL Go.Proofs Go
attribute [local irreducible] AWP AWL AWG AWR AWE AWX AWO AWSeq AWSG AWSR AWSO AWSE AWSF GoodP OGW OGR OGE OGX PGW PGR PGE Wk AWLoop AWPD AWLD

theorem CCompile_ok {vs : List Un} (p : Prg) (hl : p.vars.length ≤ 1000000) (hok : okP p) (hz : p.name.size ≤ 2000000) (hzv : ∀ v ∈ p.vars, v.name.size ≤ 2000000) (hv : validB p = true)
    (v0 : stSL vs p.on0 = 0) (v1 : stSL vs p.on1 = 0) (v2 : stSL vs p.on2 = 0) (v3 : stSL vs p.on3 = 0) (v4 : stSL vs p.on4 = 0)
    (l0 : (codeSs p.on0 0).length ≤ 1000000000) (l1 : (codeSs p.on1 0).length ≤ 1000000000) (l2 : (codeSs p.on2 0).length ≤ 1000000000) (l3 : (codeSs p.on3 0).length ≤ 1000000000) (l4 : (codeSs p.on4 0).length ≤ 1000000000)
    (b0 : manyL p.on0 ≤ 1000000000) (b1 : manyL p.on1 ≤ 1000000000) (b2 : manyL p.on2 ≤ 1000000000) (b3 : manyL p.on3 ≤ 1000000000) (b4 : manyL p.on4 ≤ 1000000000) (H0 : List AObj) :
    ARun Try.prog 13 [.ag (cP p)] H0 (.ret (.tup [.ag (cC (compS p).1), .i (compS p).2]) H0) := by
  have c1 := fun H0 => CValid_run p hl hok hz hzv H0
  rw [hv] at c1
  have e : compS p = (if (codeSs p.on0 0).length ≤ 4000 ∧ (codeSs p.on1 0).length ≤ 4000 ∧ (codeSs p.on2 0).length ≤ 4000 ∧ (codeSs p.on3 0).length ≤ 4000 ∧ (codeSs p.on4 0).length ≤ 4000
      then (⟨codeSs p.on0 0, codeSs p.on1 0, codeSs p.on2 0, codeSs p.on3 0, codeSs p.on4 0⟩, 0) else (cod0, 2)) := by unfold compS; rw [if_pos hv]
  rw [e]
  clear e
  have w0 := fun wid H hw => wstmts0_run (vs := vs) wid p.on0 v0 l0 b0 H hw
  have w1 := fun wid H hw => wstmts0_run (vs := vs) wid p.on1 v1 l1 b1 H hw
  have w2 := fun wid H hw => wstmts0_run (vs := vs) wid p.on2 v2 l2 b2 H hw
  have w3 := fun wid H hw => wstmts0_run (vs := vs) wid p.on3 v3 l3 b3 H hw
  have w4 := fun wid H hw => wstmts0_run (vs := vs) wid p.on4 v4 l4 b4 H hw
  generalize codeSs p.on0 0 = C0 at *
  generalize codeSs p.on1 0 = C1 at *
  generalize codeSs p.on2 0 = C2 at *
  generalize codeSs p.on3 0 = C3 at *
  generalize codeSs p.on4 0 = C4 at *
  have q0 : (pvRows (C0.map encI)).length = C0.length := by simp [pvRows]
  have q1 : (pvRows (C1.map encI)).length = C1.length := by simp [pvRows]
  have q2 : (pvRows (C2.map encI)).length = C2.length := by simp [pvRows]
  have q3 : (pvRows (C3.map encI)).length = C3.length := by simp [pvRows]
  have q4 : (pvRows (C4.map encI)).length = C4.length := by simp [pvRows]
  have t0 : ((pvRows (C0.map encI)).drop 0).take C0.length = pvRows (C0.map encI) := by rw [List.drop_zero, List.take_of_length_le (by omega)]
  have t1 : ((pvRows (C1.map encI)).drop 0).take C1.length = pvRows (C1.map encI) := by rw [List.drop_zero, List.take_of_length_le (by omega)]
  have t2 : ((pvRows (C2.map encI)).drop 0).take C2.length = pvRows (C2.map encI) := by rw [List.drop_zero, List.take_of_length_le (by omega)]
  have t3 : ((pvRows (C3.map encI)).drop 0).take C3.length = pvRows (C3.map encI) := by rw [List.drop_zero, List.take_of_length_le (by omega)]
  have t4 : ((pvRows (C4.map encI)).drop 0).take C4.length = pvRows (C4.map encI) := by rw [List.drop_zero, List.take_of_length_le (by omega)]
  (refine ARun.intro Try.func13 rfl Try.call13 Try.ntmps13 Try.results13 ?_; simp only [List.length_cons, List.length_nil, List.length_map, Nat.reduceAdd, Nat.reduceSub, List.replicate_succ, List.replicate_zero, List.cons_append, List.nil_append])
  repeat' (first | refine awp_seq ?_ | refine awp_block ?_ | refine awp_scope ?_ | ((first | refine awp_region_k fun Kn Kp hn hp => ?_ | refine oge_intro (by assumption) ?_ | (show AWE _ _ _ _ _ _ _ _ _; first | refine awe_intro (c1 _) ?_) | (show AWSF _ _ _ _ _ _ _ _ _ _ _; first | refine awsf_intro (c1 _) (fun hrun => ?_)) | (show OGE _ _ _ _ _ _ _; first | refine oge_intro (c1 _) ?_) | (show AWSE _ _ _ _ _ _ _ _ _ _ _; first | refine awse_intro (c1 _) (fun hrun => ?_)) | (show PGE _ _ _ _ _; first | refine pge_intro (c1 _) (fun tm' => ?_))) <;> (simp only [go_sem, Nat.reduceAdd, Nat.reduceSub, Nat.reduceMul, Nat.reduceLeDiff, Nat.reduceLT, Nat.reduceEqDiff, Int.reduceToNat, Int.reduceAdd, Int.reduceMul, Int.reduceSub, Int.reduceLT, Int.reduceLE, Int.reduceEq, Int.reduceNeg, Int.reduceBEq, Int.reduceBNe, ↓reduceIte, reduceCtorEq] <;> try simp (disch := omega) only [wrap_of])) | (refine hn _ _ ?_; clear hn hp Kn Kp) | (refine hp _ _ _ ?_; clear hn hp Kn Kp) | (refine awp_cond rfl (fun hb => ?_) (fun hb => ?_) <;> (try simp only [decide_eq_true_eq, decide_eq_false_iff_not, Bool.not_eq_true', Bool.not_eq_false', Bool.true_eq_false, Bool.false_eq_true, beq_iff_eq, bne_iff_ne, bne_eq_false_iff_eq, beq_eq_false_iff_ne, gt_iff_lt, ge_iff_le, Int.reduceEq, Int.reduceNe, Int.reduceLT, Int.reduceLE, ne_eq, not_true_eq_false, not_false_eq_true] at hb)) | ((first | refine awg_split (fun hb => ?_) (fun hb => ?_) | refine awsg_split (fun hb => ?_) (fun hb => ?_)) <;> have hb0 := hb <;> (try simp only [decide_eq_true_eq, decide_eq_false_iff_not, Bool.not_eq_true', Bool.not_eq_false', Bool.true_eq_false, Bool.false_eq_true, beq_iff_eq, bne_iff_ne, bne_eq_false_iff_eq, beq_eq_false_iff_ne, gt_iff_lt, ge_iff_le, Int.reduceEq, Int.reduceNe, Int.reduceLT, Int.reduceLE, ne_eq, not_true_eq_false, not_false_eq_true] at hb0) <;> (try simp only [beq_true, beq_false, Bool.not_eq_true', Bool.not_eq_false'] at hb) <;> (simp only [go_sem, Nat.reduceAdd, Nat.reduceSub, Nat.reduceMul, Nat.reduceLeDiff, Nat.reduceLT, Nat.reduceEqDiff, Int.reduceToNat, Int.reduceAdd, Int.reduceMul, Int.reduceSub, Int.reduceLT, Int.reduceLE, Int.reduceEq, Int.reduceNeg, Int.reduceBEq, Int.reduceBNe, ↓reduceIte, reduceCtorEq, hb, hb0] <;> try simp (disch := omega) only [wrap_of])) | (refine And.intro ?_ ?_) | refine awp_skip ?_ | refine awp_ret ?_ | refine awp_exit ?_ | refine awp_label ?_ | refine awloop_step ?_ | (simp only [go_sem, Nat.reduceAdd, Nat.reduceSub, Nat.reduceMul, Nat.reduceLeDiff, Nat.reduceLT, Nat.reduceEqDiff, Int.reduceToNat, Int.reduceAdd, Int.reduceMul, Int.reduceSub, Int.reduceLT, Int.reduceLE, Int.reduceEq, Int.reduceNeg, Int.reduceBEq, Int.reduceBNe, ↓reduceIte, reduceCtorEq]) | fail)
  refine awp_loop 6 ?_
  repeat' (first | refine awp_seq ?_ | refine awp_block ?_ | refine awp_scope ?_ | ((first | refine awp_region_k fun Kn Kp hn hp => ?_ | refine oge_intro (by assumption) ?_ | (show AWE _ _ _ _ _ _ _ _ _; first | refine awe_intro (w0 _ _ (getOk _ _ _)) ?_ | refine awe_intro (w1 _ _ (getOk _ _ _)) ?_ | refine awe_intro (w2 _ _ (getOk _ _ _)) ?_ | refine awe_intro (w3 _ _ (getOk _ _ _)) ?_ | refine awe_intro (w4 _ _ (getOk _ _ _)) ?_) | (show AWSF _ _ _ _ _ _ _ _ _ _ _; first | refine awsf_intro (w0 _ _ (getOk _ _ _)) (fun hrun => ?_) | refine awsf_intro (w1 _ _ (getOk _ _ _)) (fun hrun => ?_) | refine awsf_intro (w2 _ _ (getOk _ _ _)) (fun hrun => ?_) | refine awsf_intro (w3 _ _ (getOk _ _ _)) (fun hrun => ?_) | refine awsf_intro (w4 _ _ (getOk _ _ _)) (fun hrun => ?_)) | (show OGE _ _ _ _ _ _ _; first | refine oge_intro (w0 _ _ (getOk _ _ _)) ?_ | refine oge_intro (w1 _ _ (getOk _ _ _)) ?_ | refine oge_intro (w2 _ _ (getOk _ _ _)) ?_ | refine oge_intro (w3 _ _ (getOk _ _ _)) ?_ | refine oge_intro (w4 _ _ (getOk _ _ _)) ?_) | (show AWSE _ _ _ _ _ _ _ _ _ _ _; first | refine awse_intro (w0 _ _ (getOk _ _ _)) (fun hrun => ?_) | refine awse_intro (w1 _ _ (getOk _ _ _)) (fun hrun => ?_) | refine awse_intro (w2 _ _ (getOk _ _ _)) (fun hrun => ?_) | refine awse_intro (w3 _ _ (getOk _ _ _)) (fun hrun => ?_) | refine awse_intro (w4 _ _ (getOk _ _ _)) (fun hrun => ?_)) | (show PGE _ _ _ _ _; first | refine pge_intro (w0 _ _ (getOk _ _ _)) (fun tm' => ?_) | refine pge_intro (w1 _ _ (getOk _ _ _)) (fun tm' => ?_) | refine pge_intro (w2 _ _ (getOk _ _ _)) (fun tm' => ?_) | refine pge_intro (w3 _ _ (getOk _ _ _)) (fun tm' => ?_) | refine pge_intro (w4 _ _ (getOk _ _ _)) (fun tm' => ?_))) <;> (simp only [go_sem, Nat.reduceAdd, Nat.reduceSub, Nat.reduceMul, Nat.reduceLeDiff, Nat.reduceLT, Nat.reduceEqDiff, Int.reduceToNat, Int.reduceAdd, Int.reduceMul, Int.reduceSub, Int.reduceLT, Int.reduceLE, Int.reduceEq, Int.reduceNeg, Int.reduceBEq, Int.reduceBNe, ↓reduceIte, reduceCtorEq, q0, q1, q2, q3, q4] <;> try simp (disch := omega) only [wrap_of])) | (refine hn _ _ ?_; clear hn hp Kn Kp) | (refine hp _ _ _ ?_; clear hn hp Kn Kp) | (simp (disch := omega) only [getSkip16, setSkip16, getAt1, setAt1, getAt2, setAt2, getAt3, setAt3, getAt4, setAt4, getAt5, setAt5, getAt6, setAt6, getAt7, setAt7, getAt8, setAt8, getAt9, setAt9, getAt10, setAt10, getAt11, setAt11, getAt12, setAt12, getAt13, setAt13, getAt14, setAt14, getAt15, setAt15, go_sem, Nat.reduceAdd, Nat.reduceSub, Nat.reduceMul, Nat.reduceLeDiff, Nat.reduceLT, Nat.reduceEqDiff, Int.reduceToNat, Int.reduceAdd, Int.reduceMul, Int.reduceSub, Int.reduceLT, Int.reduceLE, Int.reduceEq, Int.reduceNeg, Int.reduceBEq, Int.reduceBNe, ↓reduceIte, reduceCtorEq, q0, q1, q2, q3, q4, if_pos, if_neg, decide_pos', decide_neg', beq_pos', beq_neg', bne_pos', bne_neg', getE, wrap_of]) | (refine awp_cond_t rfl (by first | with_reducible rfl | (simp only [Bool.and_eq_true, Bool.or_eq_true, Bool.and_eq_false_iff, Bool.or_eq_false_iff, decide_eq_true_eq, decide_eq_false_iff_not, beq_iff_eq, bne_iff_ne, bne_eq_false_iff_eq, beq_eq_false_iff_ne, ne_eq, Bool.not_eq_true', Bool.not_eq_false', not_true_eq_false, not_false_eq_true]; omega)) ?_) | (refine awp_cond_f rfl (by first | with_reducible rfl | (simp only [Bool.and_eq_true, Bool.or_eq_true, Bool.and_eq_false_iff, Bool.or_eq_false_iff, decide_eq_true_eq, decide_eq_false_iff_not, beq_iff_eq, bne_iff_ne, bne_eq_false_iff_eq, beq_eq_false_iff_ne, ne_eq, Bool.not_eq_true', Bool.not_eq_false', not_true_eq_false, not_false_eq_true]; omega)) ?_) | (refine awp_cond rfl (fun hb => ?_) (fun hb => ?_) <;> (try simp only [decide_eq_true_eq, decide_eq_false_iff_not, Bool.not_eq_true', Bool.not_eq_false', Bool.true_eq_false, Bool.false_eq_true, beq_iff_eq, bne_iff_ne, Bool.or_eq_true, Bool.and_eq_true, Bool.or_eq_false_iff, Bool.and_eq_false_iff, bne_eq_false_iff_eq, beq_eq_false_iff_ne, gt_iff_lt, ge_iff_le, Int.reduceEq, Int.reduceNe, Int.reduceLT, Int.reduceLE, ne_eq, not_true_eq_false, not_false_eq_true] at hb)) | ((first | refine awg_split (fun hb => ?_) (fun hb => ?_) | refine awsg_split (fun hb => ?_) (fun hb => ?_)) <;> have hb0 := hb <;> (try simp only [decide_eq_true_eq, decide_eq_false_iff_not, Bool.not_eq_true', Bool.not_eq_false', Bool.true_eq_false, Bool.false_eq_true, beq_iff_eq, bne_iff_ne, Bool.or_eq_true, Bool.and_eq_true, Bool.or_eq_false_iff, Bool.and_eq_false_iff, bne_eq_false_iff_eq, beq_eq_false_iff_ne, gt_iff_lt, ge_iff_le, Int.reduceEq, Int.reduceNe, Int.reduceLT, Int.reduceLE, ne_eq, not_true_eq_false, not_false_eq_true] at hb0) <;> (try simp only [beq_true, beq_false, Bool.not_eq_true', Bool.not_eq_false'] at hb) <;> (simp only [go_sem, Nat.reduceAdd, Nat.reduceSub, Nat.reduceMul, Nat.reduceLeDiff, Nat.reduceLT, Nat.reduceEqDiff, Int.reduceToNat, Int.reduceAdd, Int.reduceMul, Int.reduceSub, Int.reduceLT, Int.reduceLE, Int.reduceEq, Int.reduceNeg, Int.reduceBEq, Int.reduceBNe, ↓reduceIte, reduceCtorEq, q0, q1, q2, q3, q4, hb, hb0] <;> try simp (disch := omega) only [wrap_of])) | (refine And.intro ?_ ?_) | refine awp_skip ?_ | refine awp_ret ?_ | refine awp_exit ?_ | refine awp_label ?_ | refine awloop_step ?_ | fail)
  all_goals first
    | (refine ⟨_, rfl, _, rfl, Fin.pureC 2 ?_⟩
       simp only [AV.low, List.map_cons, List.map_nil, cod0]
       exact Cv.tup ⟨Cv.agg ⟨Cv.nil (by decide), Cv.nil (by decide), Cv.nil (by decide), Cv.nil (by decide), Cv.nil (by decide), trivial⟩, Cv.refl _, trivial⟩)
    | (refine ⟨_, rfl, _, rfl, Fin.pure 2 ?_⟩
       simp only [AV.low, List.map_cons, List.map_nil, AV.toPV, AV.toPVr, getOk, List.getElem?_cons_succ, List.getElem?_cons_zero, q0, q1, q2, q3, q4, true_and, Nat.le_add_right, not_lt_k, if_false, if_true, t0, t1, t2, t3, t4]
       simp only [pvRows, toPVs_pvs, Option.map_some]
       rfl)
theorem CCompile_run (p : Prg) (hl : p.vars.length ≤ 1000000) (hz : p.name.size ≤ 2000000) (hzv : ∀ v ∈ p.vars, v.name.size ≤ 2000000) (hw : wSL p.on0 + wSL p.on1 + wSL p.on2 + wSL p.on3 + wSL p.on4 ≤ 900000) (H0 : List AObj) :
    ARun Try.prog 13 [.ag (cP p)] H0 (.ret (.tup [.ag (cC (compS p).1), .i (compS p).2]) H0) := by
  have hok := okP_of hw
  cases hv : validB p with
  | false => exact CCompile_bad p hl hok hz hzv hv H0
  | true =>
    obtain ⟨vs, V⟩ := validB_val hv
    have l0 : (codeSs p.on0 0).length ≤ 1000000000 := by rw [codeSs_len _ V.h0.1]; have := insSL_le p.on0; omega
    have b0 : manyL p.on0 ≤ 1000000000 := by have := V.h0.2.2; omega
    have l1 : (codeSs p.on1 0).length ≤ 1000000000 := by rw [codeSs_len _ V.h1.1]; have := insSL_le p.on1; omega
    have b1 : manyL p.on1 ≤ 1000000000 := by have := V.h1.2.2; omega
    have l2 : (codeSs p.on2 0).length ≤ 1000000000 := by rw [codeSs_len _ V.h2.1]; have := insSL_le p.on2; omega
    have b2 : manyL p.on2 ≤ 1000000000 := by have := V.h2.2.2; omega
    have l3 : (codeSs p.on3 0).length ≤ 1000000000 := by rw [codeSs_len _ V.h3.1]; have := insSL_le p.on3; omega
    have b3 : manyL p.on3 ≤ 1000000000 := by have := V.h3.2.2; omega
    have l4 : (codeSs p.on4 0).length ≤ 1000000000 := by rw [codeSs_len _ V.h4.1]; have := insSL_le p.on4; omega
    have b4 : manyL p.on4 ≤ 1000000000 := by have := V.h4.2.2; omega
    exact CCompile_ok p hl hok hz hzv hv V.h0.1 V.h1.1 V.h2.1 V.h3.1 V.h4.1 l0 l1 l2 l3 l4 b0 b1 b2 b3 b4 H0
end Go.Proofs.Ytiifbdkedainnaa.Y

set_option maxHeartbeats 8000000
set_option maxRecDepth 100000
set_option linter.unusedVariables false
set_option linter.unusedSimpArgs false
set_option linter.unusedSectionVars false
namespace Go.Proofs.Ytiifbdkedainnaa.Y
open Go.Proofs.Ytiifbdkedainnaa.AL Go.Proofs Go
attribute [local irreducible] AWP AWL AWG AWR AWE AWX AWO AWSeq AWSG AWSR AWSO AWSE AWSF GoodP OGW OGR OGE OGX PGW PGR PGE Wk AWLoop AWPD AWLD
theorem dr22_6_X20w : Drawn Try.prog 6 (regOps 6 ((Try.f22.body).getD .skip)) [] [] [.win [0], .win [0], .win [0], .win [0], .win [0], .win [0], .win [0], .win [0], .win [0]] 0 [] := ⟨rfl, by as_aux_lemma => kernel_rfl⟩
theorem dr15_4_X20w : Drawn Try.prog 4 (regOps 4 ((Try.f15.body).getD .skip)) [8] [] [.win [0], .win [0], .win [0], .win [0], .win [0], .win [0], .win [0], .win [0], .eff 0, .win [1]] 1 [] := ⟨rfl, by as_aux_lemma => kernel_rfl⟩

theorem RCompile_run (p : Prg) (hf : fine1 p) (hz : p.name.size ≤ 2000000) (hzv : ∀ v ∈ p.vars, v.name.size ≤ 2000000) (hw : wSL p.on0 + wSL p.on1 + wSL p.on2 + wSL p.on3 + wSL p.on4 ≤ 900000) (H0 : List AObj) :
    ARun Try.prog 14 [.ag (cP p)] H0 (.ret (.tup [.ag (cC (compS p).1), .i (compS p).2]) H0) := by
  have c1 := fun H0 => RValid_run p hf hz hzv H0
  cases hv : validB p with
  | false =>
    rw [hv] at c1
    have e : compS p = (cod0, 1) := by unfold compS; rw [hv]; rfl
    rw [e]
    (refine ARun.intro Try.func14 rfl Try.call14 Try.ntmps14 Try.results14 ?_; simp only [List.length_cons, List.length_nil, List.length_map, Nat.reduceAdd, Nat.reduceSub, List.replicate_succ, List.replicate_zero, List.cons_append, List.nil_append])
    (have cc1 := fun z1 => c1 z1; refine wkS ?_; clear cc1; (repeat' first | exact True.intro | refine Lf.mk ?_ ?_); all_goals intro hP)
    refine ⟨_, rfl, _, rfl, Fin.pureC 2 ?_⟩
    simp only [AV.low, List.map_cons, List.map_nil, cod0]
    exact Cv.tup ⟨Cv.agg ⟨Cv.nil (by decide), Cv.nil (by decide), Cv.nil (by decide), Cv.nil (by decide), Cv.nil (by decide), trivial⟩, Cv.refl _, trivial⟩
  | true =>
    rw [hv] at c1
    obtain ⟨vs, V⟩ := validB_val hv
    have b0 := insSL_le p.on0
    have b1 := insSL_le p.on1
    have b2 := insSL_le p.on2
    have b3 := insSL_le p.on3
    have b4 := insSL_le p.on4
    have w0 := fun H => RStmts9_run (vs := vs) _ p.on0 (Nat.lt_succ_self _) V.h0.1 0 H (by rw [codeSs_len _ V.h0.1]; omega)
    have w1 := fun H => RStmts9_run (vs := vs) _ p.on1 (Nat.lt_succ_self _) V.h1.1 0 H (by rw [codeSs_len _ V.h1.1]; omega)
    have w2 := fun H => RStmts9_run (vs := vs) _ p.on2 (Nat.lt_succ_self _) V.h2.1 0 H (by rw [codeSs_len _ V.h2.1]; omega)
    have w3 := fun H => RStmts9_run (vs := vs) _ p.on3 (Nat.lt_succ_self _) V.h3.1 0 H (by rw [codeSs_len _ V.h3.1]; omega)
    have w4 := fun H => RStmts9_run (vs := vs) _ p.on4 (Nat.lt_succ_self _) V.h4.1 0 H (by rw [codeSs_len _ V.h4.1]; omega)
    have e : compS p = (if (codeSs p.on0 0).length ≤ 4000 ∧ (codeSs p.on1 0).length ≤ 4000 ∧ (codeSs p.on2 0).length ≤ 4000 ∧ (codeSs p.on3 0).length ≤ 4000 ∧ (codeSs p.on4 0).length ≤ 4000
      then (⟨codeSs p.on0 0, codeSs p.on1 0, codeSs p.on2 0, codeSs p.on3 0, codeSs p.on4 0⟩, 0) else (cod0, 2)) := by unfold compS; rw [if_pos hv]
    rw [e]
    clear e V b0 b1 b2 b3 b4 hw
    generalize codeSs p.on0 0 = C0 at *
    generalize codeSs p.on1 0 = C1 at *
    generalize codeSs p.on2 0 = C2 at *
    generalize codeSs p.on3 0 = C3 at *
    generalize codeSs p.on4 0 = C4 at *
    (refine ARun.intro Try.func14 rfl Try.call14 Try.ntmps14 Try.results14 ?_; simp only [List.length_cons, List.length_nil, List.length_map, Nat.reduceAdd, Nat.reduceSub, List.replicate_succ, List.replicate_zero, List.cons_append, List.nil_append])
    (have cc1 := fun z1 => c1 z1; refine wkS ?_; clear cc1; (repeat' first | exact True.intro | refine Lf.mk ?_ ?_); all_goals intro hP)
    refine awp_loop 6 ?_
    (have cc1 := fun z1 => w0 z1; have cc2 := fun z1 => w1 z1; have cc3 := fun z1 => w2 z1; have cc4 := fun z1 => w3 z1; have cc5 := fun z1 => w4 z1; refine wkO ?_; clear cc1 cc2 cc3 cc4 cc5; (repeat' first | exact True.intro | refine Lf.mk ?_ ?_); all_goals intro hP)
    all_goals first
      | (refine ⟨_, rfl, _, rfl, Fin.pureC 2 ?_⟩; simp only [AV.low, List.map_cons, List.map_nil, cod0]; exact Cv.tup ⟨Cv.agg ⟨Cv.nil (by decide), Cv.nil (by decide), Cv.nil (by decide), Cv.nil (by decide), Cv.nil (by decide), trivial⟩, Cv.refl _, trivial⟩)
      | (refine ⟨_, rfl, _, rfl, Fin.pureC 2 ?_⟩; simp only [AV.low, List.map_cons, List.map_nil]; exact Cv.refl _)
theorem eqgI : Try.prog.eqGuardType Try.prog.depth 41 = false := by kernel_rfl
theorem eqsI : eqStruct Try.prog 41 = true := by kernel_rfl
/-- Instructions are compared. -/
def sameI (a b : List Ins) : Bool := decide (a = b)
def sameC (a b : Cod) : Bool := sameI a.c0 b.c0 && (sameI a.c1 b.c1 && (sameI a.c2 b.c2 && (sameI a.c3 b.c3 && sameI a.c4 b.c4)))
theorem RSameI_run (a b : List Ins) (H0 : List AObj) :
    ARun Try.prog 22 [.rs 3 (a.map encI), .rs 3 (b.map encI)] H0 (.ret (.b (sameI a b)) H0) := by
  by_cases hl : a.length = b.length
  · have hl' : ((a.length : Int) != (b.length : Int)) = false := by simp; omega
    (refine ARun.intro Try.func22 rfl Try.call22 Try.ntmps22 Try.results22 ?_; simp only [List.length_cons, List.length_nil, List.length_map, Nat.reduceAdd, Nat.reduceSub, List.replicate_succ, List.replicate_zero, List.cons_append, List.nil_append])
    refine awp_len 0 rfl fun hlen => ?_
    rw [List.length_map] at hlen
    (have rr1 := dr22_6_X20w; have ww1 := hl'; refine wk ?_; clear rr1 ww1; (repeat' first | exact True.intro | refine Lf.mk ?_ ?_); all_goals intro hP)
    refine awp_loop_ind (σ := Nat) (fun k => a.length - k) (fun k => k ≤ a.length ∧ sameI a b = sameI (a.drop k) (b.drop k))
      (fun k => (.rs 3 (a.map encI) :: .rs 3 (b.map encI) :: .any :: .any :: .any :: .i k :: .any :: .any :: .any :: .any :: .any :: .any :: .any :: .any :: .any :: .any :: .any :: .any :: .any :: .any :: .any :: .any :: .any :: .any :: .any :: .any :: []))
      (fun k => H0) 0 ⟨Nat.zero_le _, by simp⟩ (by (refine fgtX ?_; try exact True.intro)) ?_
    rintro k ⟨k1, k2⟩
    cases hd : a.drop k with
    | nil =>
      have hlt := drop_nil hd
      have hk : a.length ≤ k := List.drop_eq_nil_iff.1 hd
      rw [hd, List.drop_eq_nil_iff.2 (show b.length ≤ k by omega)] at k2
      rw [k2]
      (have rr1 := dr22_6_X20w; have ww1 := hlt; refine wk ?_; clear rr1 ww1; (repeat' first | exact True.intro | refine Lf.mk ?_ ?_); all_goals intro hP)
      (refine resX ?_; try exact True.intro)
      all_goals simp [sameI]
    | cons x xs =>
      obtain ⟨hvk, hlt, hr, hm⟩ := drop_cons hd
      have hw : IntKind.i64.wrap ((k : Int) + 1) = ((k + 1 : Nat) : Int) := by rw [wrap_of (by omega) (by omega)]; omega
      have hbk : k < b.length := by omega
      have hbd : b.drop k = b[k] :: b.drop (k + 1) := List.drop_eq_getElem_cons hbk
      have hvb : b[k]? = some b[k] := List.getElem?_eq_getElem hbk
      have hlb : (k : Int) < (b.length : Int) := by omega
      generalize b[k] = y at *
      have ga : (a.map encI)[k]? = some [.i x.op, .i x.n, .i x.rel] := by rw [List.getElem?_map, hvk]; rfl
      have gb : (b.map encI)[k]? = some [.i y.op, .i y.n, .i y.rel] := by rw [List.getElem?_map, hvb]; rfl
      rw [hd, hbd] at k2
      by_cases hxy : x = y
      · subst hxy
        have k3 : sameI a b = sameI xs (b.drop (k + 1)) := by rw [k2]; unfold sameI; simp
        rw [← hr] at k3
        (have rr1 := dr22_6_X20w; have ww1 := hlt; have ww2 := hlb; have ww3 := ga; have ww4 := gb; have ww5 := hw; have ww6 := @eqgI; have ww7 := @eqsI; refine wk ?_; clear rr1 ww1 ww2 ww3 ww4 ww5 ww6 ww7; (repeat' first | exact True.intro | refine Lf.mk ?_ ?_); all_goals intro hP)
        refine ⟨k + 1, by omega, ⟨by omega, k3⟩, ?_⟩
        (refine fgtX ?_; try exact True.intro)
      · have k3 : sameI a b = false := by rw [k2]; unfold sameI; simp [hxy]
        have hne : (x.op == y.op && (x.n == y.n && x.rel == y.rel)) = false := by
          rw [Bool.eq_false_iff]
          simp only [ne_eq, Bool.and_eq_true, beq_iff_eq]
          rintro ⟨h1, h2, h3⟩
          exact hxy (by cases x; cases y; simp_all)
        rw [k3]
        (have rr1 := dr22_6_X20w; have ww1 := hlt; have ww2 := hlb; have ww3 := ga; have ww4 := gb; have ww5 := hw; have ww6 := @eqgI; have ww7 := @eqsI; have ww8 := hne; refine wk ?_; clear rr1 ww1 ww2 ww3 ww4 ww5 ww6 ww7 ww8; (repeat' first | exact True.intro | refine Lf.mk ?_ ?_); all_goals intro hP)
        (refine resX ?_; try exact True.intro)
  · have hl' : ((a.length : Int) != (b.length : Int)) = true := by simp; omega
    have : sameI a b = false := by unfold sameI; simp; intro h; exact hl (by rw [h])
    rw [this]
    (refine ARun.intro Try.func22 rfl Try.call22 Try.ntmps22 Try.results22 ?_; simp only [List.length_cons, List.length_nil, List.length_map, Nat.reduceAdd, Nat.reduceSub, List.replicate_succ, List.replicate_zero, List.cons_append, List.nil_append])
    (have rr1 := dr22_6_X20w; have ww1 := hl'; refine wk ?_; clear rr1 ww1; (repeat' first | exact True.intro | refine Lf.mk ?_ ?_); all_goals intro hP)
    (refine resX ?_; try exact True.intro)
theorem RSameC_run (a b : Cod) (H0 : List AObj) :
    ARun Try.prog 15 [agC a, agC b] H0 (.ret (.b (sameC a b)) H0) := by
  have c0 := fun H => RSameI_run a.c0 b.c0 H
  have c1 := fun H => RSameI_run a.c1 b.c1 H
  have c2 := fun H => RSameI_run a.c2 b.c2 H
  have c3 := fun H => RSameI_run a.c3 b.c3 H
  have c4 := fun H => RSameI_run a.c4 b.c4 H
  unfold sameC
  generalize sameI a.c0 b.c0 = s0 at *
  generalize sameI a.c1 b.c1 = s1 at *
  generalize sameI a.c2 b.c2 = s2 at *
  generalize sameI a.c3 b.c3 = s3 at *
  generalize sameI a.c4 b.c4 = s4 at *
  (refine ARun.intro Try.func15 rfl Try.call15 Try.ntmps15 Try.results15 ?_; simp only [List.length_cons, List.length_nil, List.length_map, Nat.reduceAdd, Nat.reduceSub, List.replicate_succ, List.replicate_zero, List.cons_append, List.nil_append])
  (have rr1 := dr15_4_X20w; refine wkS ?_; clear rr1; (repeat' first | exact True.intro | refine Lf.mk ?_ ?_); all_goals intro hP)
  refine awp_loop 6 ?_
  (have rr1 := dr15_4_X20w; have cc1 := fun z1 => c0 z1; have cc2 := fun z1 => c1 z1; have cc3 := fun z1 => c2 z1; have cc4 := fun z1 => c3 z1; have cc5 := fun z1 => c4 z1; refine wk ?_; clear rr1 cc1 cc2 cc3 cc4 cc5; (repeat' first | exact True.intro | refine Lf.mk ?_ ?_); all_goals intro hP)
  all_goals ((refine resX ?_; try exact True.intro))
  all_goals simp_all
end Go.Proofs.Ytiifbdkedainnaa.Y

/- A call at other words for the same arguments. -/
set_option linter.unusedVariables false
set_option linter.unusedSectionVars false
namespace Go.Proofs.Ytiifbdkedainnaa.AL
variable [G : GTab]
theorem CvL.fgt : ∀ {a b : List AV}, CvL a b → Fgt a b
  | [], [], _ => trivial
  | [], _ :: _, h => h.elim
  | _ :: _, [], h => h.elim
  | _ :: _, _ :: _, h => ⟨.inr (.inr h.1), CvL.fgt h.2⟩
theorem ARun.cv {P : Program} {f : FuncId} {args args' : List AV} {H : List AObj} {out : AOut} (h : ARun P f args' H out) (ha : CvL args args') : ARun P f args H out :=
  ARun.wk (Wk.fgt ha.fgt) h
end Go.Proofs.Ytiifbdkedainnaa.AL

set_option maxHeartbeats 8000000
set_option maxRecDepth 100000
set_option linter.unusedVariables false
set_option linter.unusedSimpArgs false
set_option linter.unusedSectionVars false
namespace Go.Proofs.Ytiifbdkedainnaa.Y
open Go.Proofs.Ytiifbdkedainnaa.AL Go.Proofs Go
attribute [local irreducible] AWP AWL AWG AWR AWE AWX AWO AWSeq AWSG AWSR AWSO AWSE AWSF GoodP OGW OGR OGE OGX PGW PGR PGE Wk AWLoop AWPD AWLD

def dE : Ex := .mk 0 0 0 []
/-- The example. -/
def pEx : Prg := ⟨⟨#[112]⟩, [⟨⟨#[119]⟩, 1, 1, 9, 1⟩], [.mk 2 0 1 (.mk 3 0 0 []) (.mk 1 2 1 []) [.mk 1 0 0 (.mk 4 0 0 [.mk 2 0 0 [], .mk 3 0 0 []]) dE [] []] [.mk 1 0 0 (.mk 1 1 1 []) dE [] []]], [], [], [], [], 0, -1⟩
theorem num9_run (n : Int) (H0 : List AObj) : ARun Try.prog 38 [.i n] H0 (.ret (.ag (cE (.mk 1 n 1 []))) H0) := by
  show ARun Try.prog 38 [.i n] H0 (.ret (.agg [.i 1, .i n, .i 1, .rs 4 []]) H0)
  (refine ARun.intro Try.func38 rfl Try.call38 Try.ntmps38 Try.results38 ?_; simp only [List.length_cons, List.length_nil, List.length_map, Nat.reduceAdd, Nat.reduceSub, List.replicate_succ, List.replicate_zero, List.cons_append, List.nil_append])
  (refine wk ?_; (repeat' first | exact True.intro | refine Lf.mk ?_ ?_); all_goals intro hP)
  (refine resC ?_; (repeat' (first | exact True.intro | refine Lf.mk ?_ ?_)))
  (repeat' (first | exact trivial | exact Cv.refl _ | exact Cv.nil (Nat.succ_pos _) | exact PCv.refl _ | exact PCv.nil (Nat.succ_pos _) | refine And.intro ?_ ?_ | refine Cv.agg ?_ | refine Cv.tup ?_ | refine Cv.pv (PCv.rs ?_) | refine PCv.rs ?_))
theorem in9_run (n : Int) (H0 : List AObj) : ARun Try.prog 37 [.i n] H0 (.ret (.ag (cE (.mk 3 n 0 []))) H0) := by
  show ARun Try.prog 37 [.i n] H0 (.ret (.agg [.i 3, .i n, .i 0, .rs 4 []]) H0)
  (refine ARun.intro Try.func37 rfl Try.call37 Try.ntmps37 Try.results37 ?_; simp only [List.length_cons, List.length_nil, List.length_map, Nat.reduceAdd, Nat.reduceSub, List.replicate_succ, List.replicate_zero, List.cons_append, List.nil_append])
  (refine wk ?_; (repeat' first | exact True.intro | refine Lf.mk ?_ ?_); all_goals intro hP)
  (refine resC ?_; (repeat' (first | exact True.intro | refine Lf.mk ?_ ?_)))
  (repeat' (first | exact trivial | exact Cv.refl _ | exact Cv.nil (Nat.succ_pos _) | exact PCv.refl _ | exact PCv.nil (Nat.succ_pos _) | refine And.intro ?_ ?_ | refine Cv.agg ?_ | refine Cv.tup ?_ | refine Cv.pv (PCv.rs ?_) | refine PCv.rs ?_))
theorem example9_run (H0 : List AObj) : ARun Try.prog 23 [] H0 (.ret (.ag (cP pEx)) H0) := by
  (refine ARun.intro Try.func23 rfl Try.call23 Try.ntmps23 Try.results23 ?_; simp only [List.length_cons, List.length_nil, List.length_map, Nat.reduceAdd, Nat.reduceSub, List.replicate_succ, List.replicate_zero, List.cons_append, List.nil_append])
  (refine wk ?_; (repeat' first | exact True.intro | refine Lf.mk ?_ ?_); all_goals intro hP)
  (refine awp_drawnO_k (id := 3) [4, 7, 10, 12, 15] [] [([4, 7, 10, 12, 15], [0, 1, 2, 3, 4, 5, 6, 7, 8, 9, 10, 11, 12, 13, 14, 15], [.win [0], .win [0], .win [0], .win [0], .eff 0, .win [1], .win [1], .eff 1, .win [0, 1, 2], .win [0, 1, 2], .eff 2, .win [3], .eff 3, .win [0, 1, 2, 3, 4], .win [4], .eff 4]), ([4, 10, 7, 12, 15], [0, 1, 2, 3, 4, 5, 6, 8, 9, 10, 7, 11, 12, 13, 14, 15], [.win [0], .win [0], .win [0], .win [0], .eff 0, .win [1, 2], .win [1, 2], .eff 2, .win [0, 1], .win [0, 1], .eff 1, .win [3], .eff 3, .win [0, 1, 2, 3, 4], .win [4], .eff 4]), ([10, 4, 7, 12, 15], [0, 1, 2, 3, 8, 9, 10, 4, 5, 6, 7, 11, 12, 13, 14, 15], [.win [0], .win [0], .win [0, 1], .win [0], .eff 1, .win [2], .win [2], .eff 2, .win [0], .win [0], .eff 0, .win [3], .eff 3, .win [0, 1, 2, 3, 4], .win [4], .eff 4])] 5 rfl (by as_aux_lemma => kernel_rfl) fun Kn Kp hn hp => ?_; simp only [List.forall_mem_cons, List.not_mem_nil, false_implies, implies_true, and_true, go_sem, Nat.reduceAdd, Nat.reduceSub, Nat.reduceMul, Nat.reduceLeDiff, Nat.reduceLT, Nat.reduceEqDiff, Int.reduceToNat, Int.reduceAdd, Int.reduceMul, Int.reduceSub, Int.reduceLT, Int.reduceLE, Int.reduceEq, Int.reduceNeg, Int.reduceBEq, Int.reduceBNe, ↓reduceIte, reduceCtorEq, pick])
  (have cc1 := fun z1 z2 => num9_run z1 z2; have cc2 := fun z1 z2 => in9_run z1 z2; refine wkS ?_; clear cc1 cc2; (repeat' first | exact True.intro | refine Lf.mk ?_ ?_); all_goals intro hP)
  all_goals
    refine hn _ _ ?_
    clear hn hp Kn Kp
    (refine wkS ?_; (repeat' first | exact True.intro | refine Lf.mk ?_ ?_); all_goals intro hP)
    refine ⟨_, rfl, _, rfl, Fin.pureC 6 ?_⟩
    simp only [List.map_cons, List.map_nil, AV.low, AV.toPV, AV.toPVs, AV.toPVr, getO0, getOk, getS0, getSk, List.getElem?_cons_zero, List.getElem?_cons_succ, Nat.not_lt_zero, if_false, if_true, List.length_cons, List.length_nil, Nat.zero_le, and_self, and_true, true_and, List.drop_zero, List.take_succ_cons, List.take_zero, List.take_nil, Option.map_some, Nat.zero_add, not_lt_k, show ∀ n k : Nat, (n ≤ n + k) = True from fun n k => by simp, Nat.le_refl]
  all_goals
    show Cv _ (.agg (_ :: _ :: _ :: _ :: _ :: _ :: _ :: _ :: _ :: []))
    simp only [pEx, dE, List.map_cons, List.map_nil, encS, encSs, encE, encEs, encV, Ex.op, Ex.n, Ex.unit, Ex.kids]
    (repeat' (first | exact trivial | exact Cv.refl _ | exact Cv.nil (Nat.succ_pos _) | exact PCv.refl _ | exact PCv.nil (Nat.succ_pos _) | refine And.intro ?_ ?_ | refine Cv.agg ?_ | refine Cv.tup ?_ | refine Cv.pv (PCv.rs ?_) | refine PCv.rs ?_))
/-- What the example becomes. -/
def wEx : List Ins := [⟨3, 0, 0⟩, ⟨1, 2, 0⟩, ⟨12, 8, 1⟩, ⟨2, 0, 0⟩, ⟨3, 0, 0⟩, ⟨4, 0, 0⟩, ⟨11, 0, 0⟩, ⟨13, 10, 0⟩, ⟨1, 1, 0⟩, ⟨11, 0, 0⟩]
def pZero : Prg := ⟨⟨#[]⟩, [], [], [], [], [], [], 0, 0⟩
instance : DecidableEq Cod := fun a b =>
  if h : a.c0 = b.c0 ∧ a.c1 = b.c1 ∧ a.c2 = b.c2 ∧ a.c3 = b.c3 ∧ a.c4 = b.c4 then isTrue (by cases a; cases b; simp_all) else isFalse (fun e => h (by subst e; exact ⟨rfl, rfl, rfl, rfl, rfl⟩))
theorem compEx : compS pEx = (⟨wEx, [], [], [], []⟩, 0) := by decide +kernel
theorem compZero : compS pZero = (cod0, 1) := by decide +kernel
theorem head9_run (H0 : List AObj) : ARun Try.prog 10 [] H0 (.ret (.b true) H0) := by
  have c1 := fun H => CCompile_run pEx (by decide) (by decide) (by decide) (by decide) H
  rw [compEx] at c1
  have c2 := fun H => CCompile_run pZero (by decide) (by decide) (by decide) (by decide) H
  rw [compZero] at c2
  have s1 := RSameI_run wEx wEx []
  have v1 := fun H => CVerify_run ⟨wEx, [], [], [], []⟩ 1 ⟨by decide, by decide, by decide, by decide, by decide⟩ H
  have v2 := fun H => CVerify_run ⟨wEx, [], [], [], []⟩ 0 ⟨by decide, by decide, by decide, by decide, by decide⟩ H
  have v3 := CVerify_run cod0 0 ⟨by decide, by decide, by decide, by decide, by decide⟩ []
  have v4 := CVerify_run cod0 13 ⟨by decide, by decide, by decide, by decide, by decide⟩ []
  have v5 := CVerify_run ⟨[], [], [⟨1, 0, 0⟩], [], []⟩ 1 ⟨by decide, by decide, by decide, by decide, by decide⟩ []
  have v6 := CVerify_run ⟨[⟨1, 0, 0⟩, ⟨4, 0, 0⟩], [], [], [], []⟩ 1 ⟨by decide, by decide, by decide, by decide, by decide⟩ []
  have v7 := CVerify_run ⟨[], [], [], [], [⟨13, 0, 0⟩]⟩ 1 ⟨by decide, by decide, by decide, by decide, by decide⟩ []
  rw [show sameI wEx wEx = true by decide +kernel] at s1
  rw [show verC ⟨wEx, [], [], [], []⟩ 1 = true by decide +kernel] at v1
  rw [show verC ⟨wEx, [], [], [], []⟩ 0 = false by decide +kernel] at v2
  rw [show verC cod0 0 = true by decide +kernel] at v3
  rw [show verC cod0 13 = false by decide +kernel] at v4
  rw [show verC ⟨[], [], [⟨1, 0, 0⟩], [], []⟩ 1 = false by decide +kernel] at v5
  rw [show verC ⟨[⟨1, 0, 0⟩, ⟨4, 0, 0⟩], [], [], [], []⟩ 1 = false by decide +kernel] at v6
  rw [show verC ⟨[], [], [], [], [⟨13, 0, 0⟩]⟩ 1 = false by decide +kernel] at v7
  simp only [wEx, cod0, agC, List.map_cons, List.map_nil, encI, cI] at s1 v1 v2 v3 v4 v5 v6 v7
  simp only [wEx, cod0, List.map_cons, List.map_nil, encI, cI] at c1 c2
  have c2' : ∀ H, ARun Try.prog 13 [.agg [.pv (.sc (.string ⟨#[]⟩)), .pv (.sc (.slice none 0 0)), .pv (.sc (.slice none 0 0)), .pv (.sc (.slice none 0 0)), .pv (.sc (.slice none 0 0)), .pv (.sc (.slice none 0 0)), .pv (.sc (.slice none 0 0)), .i 0, .i 0]] H _ := fun H => ARun.cv (c2 H) (by refine ⟨?_, trivial⟩; exact Cv.agg (by simp only [pZero, cP, List.map_cons, List.map_nil]; (repeat' (first | exact trivial | exact Cv.refl _ | exact Cv.nil (Nat.succ_pos _) | exact PCv.refl _ | exact PCv.nil (Nat.succ_pos _) | refine And.intro ?_ ?_ | refine Cv.agg ?_ | refine Cv.tup ?_ | refine Cv.pv (PCv.rs ?_) | refine PCv.rs ?_))))
  (refine ARun.intro Try.func10 rfl Try.call10 Try.ntmps10 Try.results10 ?_; simp only [List.length_cons, List.length_nil, List.length_map, Nat.reduceAdd, Nat.reduceSub, List.replicate_succ, List.replicate_zero, List.cons_append, List.nil_append])
  (have cc1 := fun z1 => example9_run z1; have cc2 := fun z1 => c1 z1; have cc3 := fun z1 => v1 z1; have cc4 := fun z1 => v2 z1; have dd1 := s1; have dd2 := v3; have dd3 := v4; have dd4 := v5; have dd5 := v6; have dd6 := v7; have cc5 := fun z1 => c2' z1; refine wkS ?_; clear cc1 cc2 cc3 cc4 dd1 dd2 dd3 dd4 dd5 dd6 cc5; (repeat' first | exact True.intro | refine Lf.mk ?_ ?_); all_goals intro hP)
  (refine resX ?_; try exact True.intro)
end Go.Proofs.Ytiifbdkedainnaa.Y

set_option maxHeartbeats 8000000
set_option maxRecDepth 100000
set_option linter.unusedVariables false
set_option linter.unusedSimpArgs false
set_option linter.unusedSectionVars false
namespace Go.Proofs.Ytiifbdkedainnaa.Y
open Go.Proofs.Ytiifbdkedainnaa.AL Go.Proofs Go
attribute [local irreducible] AWP AWL AWG AWR AWE AWX AWO AWSeq AWSG AWSR AWSO AWSE AWSF GoodP OGW OGR OGE OGX PGW PGR PGE Wk AWLoop AWPD AWLD

theorem flat_run (e : Ex) : ∀ (d : Int) (H0 : List AObj), 0 ≤ d → d ≤ 1000000 → ARun Try.prog 39 [.ag (cE e), .i d] H0 (.ret (.b (flatE e d)) H0) := by
  induction e using Ex.ind with
  | h e ih =>
    intro d H0 hd0 hd1
    rw [flatE_eq]
    by_cases h0 : d = 0
    · subst h0
      (refine ARun.intro Try.func39 rfl Try.call39 Try.ntmps39 Try.results39 ?_; simp only [List.length_cons, List.length_nil, List.length_map, Nat.reduceAdd, Nat.reduceSub, List.replicate_succ, List.replicate_zero, List.cons_append, List.nil_append])
      (refine wk ?_; (repeat' first | exact True.intro | refine Lf.mk ?_ ?_); all_goals intro hP)
      (refine resX ?_; try exact True.intro)
    · rw [decide_eq_true h0, Bool.true_and]
      (refine ARun.intro Try.func39 rfl Try.call39 Try.ntmps39 Try.results39 ?_; simp only [List.length_cons, List.length_nil, List.length_map, Nat.reduceAdd, Nat.reduceSub, List.replicate_succ, List.replicate_zero, List.cons_append, List.nil_append])
      refine awp_len_agg 0 3 rfl rfl fun hlen => ?_
      rw [List.length_map] at hlen
      (refine wkO ?_; (repeat' first | exact True.intro | refine Lf.mk ?_ ?_); all_goals intro hP)
      refine awp_loop_ind (σ := Nat) (fun k => e.kids.length - k) (fun k => k ≤ e.kids.length ∧ flatEL e.kids (d - 1) = flatEL (e.kids.drop k) (d - 1))
        (fun k => (.any :: .i d :: .p H0.length 0 :: .any :: .any :: .i k :: .any :: .any :: .any :: .any :: .any :: .any :: .any :: .any :: .any :: .any :: .any :: .any :: .any :: .any :: .any :: .any :: .any :: .any :: []))
        (fun k => H0 ++ [.cells 71 [.i e.op, .i e.n, .i e.unit, .rs 4 (e.kids.map encE)]]) 0 ⟨by omega, by simp⟩ (by (refine fgtX ?_; try exact True.intro)) ?_
      rintro i ⟨h2, h4⟩
      have hw2 : IntKind.i64.wrap (d - 1) = d - 1 := by rw [wrap_of (by omega) (by omega)]
      cases hr : e.kids.drop i with
      | nil =>
        have hlt := drop_nil hr
        rw [hr, flatEL] at h4
        (have ww1 := hlt; refine wk ?_; clear ww1; (repeat' first | exact True.intro | refine Lf.mk ?_ ?_); all_goals intro hP)
        (refine resX ?_; try exact True.intro)
        rw [h4]
      | cons k rest =>
        obtain ⟨hk, hlt, hd, hm⟩ := drop_cons hr
        have hw : IntKind.i64.wrap ((i : Int) + 1) = ((i + 1 : Nat) : Int) := by rw [wrap_of (by omega) (by omega)]; omega
        have hk' : (e.kids.map encE)[i]? = some (cE k) := by rw [List.getElem?_map, hk, Option.map_some, encE_eq]
        rw [hr, flatEL] at h4
        have c := fun H0 => ih k hm (d - 1) H0 (by omega) (by omega)
        cases hf : flatE k (d - 1) with
        | true =>
          rw [hf] at c
          (have ww1 := hlt; have ww2 := hk'; have ww3 := hw; have ww4 := hw2; have cc1 := fun z1 => c z1; refine wk ?_; clear ww1 ww2 ww3 ww4 cc1; (repeat' first | exact True.intro | refine Lf.mk ?_ ?_); all_goals intro hP)
          refine ⟨i + 1, by omega, ⟨by omega, by rw [hd, h4, hf, Bool.true_and]⟩, ?_⟩
          (refine fgtX ?_; try exact True.intro)
        | false =>
          rw [hf] at c
          (have ww1 := hlt; have ww2 := hk'; have ww3 := hw; have ww4 := hw2; have cc1 := fun z1 => c z1; refine wk ?_; clear ww1 ww2 ww3 ww4 cc1; (repeat' first | exact True.intro | refine Lf.mk ?_ ?_); all_goals intro hP)
          (refine resX ?_; try exact True.intro)
          rw [h4, hf, Bool.false_and]
theorem fsize_run : ∀ (N : Nat) (l : List St), totL l ≤ N → ∀ (most deep : Int) (H0 : List AObj), -1000000 ≤ most → most ≤ 100000 → 0 ≤ deep → deep ≤ 1000000 →
    ARun Try.prog 24 [.rs 13 (l.map encS), .i most, .i deep] H0 (.ret (.i (szL l most deep 0)) H0) := by
  intro N
  induction N with
  | zero =>
    intro l hN most deep H0 _ _ _ _
    have hl : l = [] := by have := len_totL l; exact List.eq_nil_of_length_eq_zero (by omega)
    subst hl
    by_cases hm : 0 ≤ most
    all_goals
      (refine ARun.intro Try.func24 rfl Try.call24 Try.ntmps24 Try.results24 ?_; simp only [List.length_cons, List.length_nil, List.length_map, Nat.reduceAdd, Nat.reduceSub, List.replicate_succ, List.replicate_zero, List.cons_append, List.nil_append])
      (refine wkO ?_; (repeat' first | exact True.intro | refine Lf.mk ?_ ?_); all_goals intro hP)
      refine awp_loop 1 ?_
      (refine wkO ?_; (repeat' first | exact True.intro | refine Lf.mk ?_ ?_); all_goals intro hP)
      (refine resX ?_; try exact True.intro)
      all_goals simp [szL]
  | succ N ihN =>
    intro l hN most deep H0 m0 m1 d0 d1
    (refine ARun.intro Try.func24 rfl Try.call24 Try.ntmps24 Try.results24 ?_; simp only [List.length_cons, List.length_nil, List.length_map, Nat.reduceAdd, Nat.reduceSub, List.replicate_succ, List.replicate_zero, List.cons_append, List.nil_append])
    refine awp_len 0 rfl fun hlen => ?_
    rw [List.length_map] at hlen
    (refine wk ?_; (repeat' first | exact True.intro | refine Lf.mk ?_ ?_); all_goals intro hP)
    refine awp_loop_ind (σ := Nat × Int) (fun s => l.length - s.1) (fun s => s.1 ≤ l.length ∧ 0 ≤ s.2 ∧ (s.2 ≤ 0 ∨ s.2 ≤ 3 * most + 3) ∧ szL (l.drop s.1) most deep s.2 = szL l most deep 0)
      (fun s => (.rs 13 (l.map encS) :: .i most :: .i deep :: .any :: .any :: .any :: .any :: .i s.2 :: .i s.1 :: .any :: .any :: .any :: .any :: .any :: .any :: .any :: .any :: .any :: .any :: .any :: .any :: .any :: .any :: .any :: .any :: .any :: .any :: .any :: .any :: .any :: .any :: .any :: .any :: .any :: .any :: .any :: .any :: .any :: .any :: .any :: .any :: .any :: .any :: .any :: .any :: .any :: .any :: .any :: .any :: .any :: .any :: .any :: .any :: .any :: .any :: .any :: .any :: .any :: .any :: .any :: .any :: .any :: .any :: .any :: .any :: .any :: .any :: .any :: .any :: .any :: .any :: .any :: .any :: .any :: .any :: .any :: .any :: .any :: .any :: .any :: .any :: .any :: .any :: .any :: .any :: .any :: .any :: []))
      (fun s => H0) (0, 0) ⟨Nat.zero_le _, by omega, .inl (by omega), rfl⟩ (by (refine fgtX ?_; try exact True.intro)) ?_
    rintro ⟨i, n⟩ ⟨h1, h2, h3, h4⟩
    simp only at h1 h2 h3 h4 ⊢
    cases hr : l.drop i with
    | nil =>
      have hlt := drop_nil hr
      rw [hr, szL] at h4
      (have ww1 := hlt; refine wk ?_; clear ww1; (repeat' first | exact True.intro | refine Lf.mk ?_ ?_); all_goals intro hP)
      (refine resX ?_; try exact True.intro)
      rw [h4]
    | cons s rest =>
      obtain ⟨hk, hlt, hd, hm⟩ := drop_cons hr
      have hw : IntKind.i64.wrap ((i : Int) + 1) = ((i + 1 : Nat) : Int) := by rw [wrap_of (by omega) (by omega)]; omega
      have hk' : (l.map encS)[i]? = some (cS s) := by rw [List.getElem?_map, hk, Option.map_some, encS_eq]
      have hmm := totL_mem hm
      rw [tot_eq] at hmm
      rw [hr, szL] at h4
      by_cases hnm : n ≤ most
      · rw [if_pos hnm] at h4
        have fa := fun H0 => flat_run s.a 200 H0 (by omega) (by omega)
        have fb := fun H0 => flat_run s.b 200 H0 (by omega) (by omega)
        by_cases hcut : deep = 0 ∨ flatE s.a 200 = false ∨ flatE s.b 200 = false
        · rw [if_pos hcut] at h4
          have hwm : IntKind.i64.wrap (most + 1) = most + 1 := wrap_of (by omega) (by omega)
          rcases hcut with hc | hc | hc
          · (have ww1 := hlt; have ww2 := hk'; have ww3 := hnm; have ww4 := hc; have ww5 := hwm; refine wk ?_; clear ww1 ww2 ww3 ww4 ww5; (repeat' first | exact True.intro | refine Lf.mk ?_ ?_); all_goals intro hP)
            (refine resX ?_; try exact True.intro)
            rw [h4]
          · rw [hc] at fa
            by_cases hd0 : deep = 0
            · (have ww1 := hlt; have ww2 := hk'; have ww3 := hnm; have ww4 := hd0; have ww5 := hwm; refine wk ?_; clear ww1 ww2 ww3 ww4 ww5; (repeat' first | exact True.intro | refine Lf.mk ?_ ?_); all_goals intro hP)
              (refine resX ?_; try exact True.intro)
              rw [h4]
            · have hd0' : (deep == 0) = false := by simpa using hd0
              (have ww1 := hlt; have ww2 := hk'; have ww3 := hnm; have ww4 := hd0'; have ww5 := hwm; have cc1 := fun z1 => fa z1; refine wk ?_; clear ww1 ww2 ww3 ww4 ww5 cc1; (repeat' first | exact True.intro | refine Lf.mk ?_ ?_); all_goals intro hP)
              (refine resX ?_; try exact True.intro)
              rw [h4]
          · rw [hc] at fb
            by_cases hd0 : deep = 0
            · (have ww1 := hlt; have ww2 := hk'; have ww3 := hnm; have ww4 := hd0; have ww5 := hwm; refine wk ?_; clear ww1 ww2 ww3 ww4 ww5; (repeat' first | exact True.intro | refine Lf.mk ?_ ?_); all_goals intro hP)
              (refine resX ?_; try exact True.intro)
              rw [h4]
            · have hd0' : (deep == 0) = false := by simpa using hd0
              cases hfa : flatE s.a 200 with
              | false =>
                rw [hfa] at fa
                (have ww1 := hlt; have ww2 := hk'; have ww3 := hnm; have ww4 := hd0'; have ww5 := hwm; have cc1 := fun z1 => fa z1; refine wk ?_; clear ww1 ww2 ww3 ww4 ww5 cc1; (repeat' first | exact True.intro | refine Lf.mk ?_ ?_); all_goals intro hP)
                (refine resX ?_; try exact True.intro)
                rw [h4]
              | true =>
                rw [hfa] at fa
                (have ww1 := hlt; have ww2 := hk'; have ww3 := hnm; have ww4 := hd0'; have ww5 := hwm; have cc1 := fun z1 => fa z1; have cc2 := fun z1 => fb z1; refine wk ?_; clear ww1 ww2 ww3 ww4 ww5 cc1 cc2; (repeat' first | exact True.intro | refine Lf.mk ?_ ?_); all_goals intro hP)
                (refine resX ?_; try exact True.intro)
                rw [h4]
        · rw [if_neg hcut] at h4
          have hd0 : ¬ deep = 0 := fun h => hcut (.inl h)
          have hfa : flatE s.a 200 = true := by cases h : flatE s.a 200 with
            | true => rfl
            | false => exact absurd (.inr (.inl h)) hcut
          have hfb : flatE s.b 200 = true := by cases h : flatE s.b 200 with
            | true => rfl
            | false => exact absurd (.inr (.inr h)) hcut
          have hd0' : (deep == 0) = false := by simpa using hd0
          rw [hfa] at fa
          rw [hfb] at fb
          have za := fun H0 => Size_run s.a most H0 (by omega) (by omega)
          have zb := fun H0 => Size_run s.b most H0 (by omega) (by omega)
          have qa := size_cap s.a most (by omega)
          have qb := size_cap s.b most (by omega)
          rw [szS_eq] at h4
          generalize size s.a most = ka at *
          generalize size s.b most = kb at *
          have q1 := szL_key s.thn (most - (n + 1 + ka + kb)) (deep - 1) 0 (by omega)
          have c1 := fun H0 => ihN s.thn (by omega) (most - (n + 1 + ka + kb)) (deep - 1) H0 (by omega) (by omega) (by omega) (by omega)
          generalize szL s.thn (most - (n + 1 + ka + kb)) (deep - 1) 0 = r1 at *
          have q2 := szL_key s.els (most - (n + 1 + ka + kb + r1)) (deep - 1) 0 (by omega)
          have c2 := fun H0 => ihN s.els (by omega) (most - (n + 1 + ka + kb + r1)) (deep - 1) H0 (by omega) (by omega) (by omega) (by omega)
          generalize szL s.els (most - (n + 1 + ka + kb + r1)) (deep - 1) 0 = r2 at *
          have w1 : IntKind.i64.wrap (n + 1) = n + 1 := wrap_of (by omega) (by omega)
          have w2 : IntKind.i64.wrap (n + 1 + ka) = n + 1 + ka := wrap_of (by omega) (by omega)
          have w3 : IntKind.i64.wrap (n + 1 + ka + kb) = n + 1 + ka + kb := wrap_of (by omega) (by omega)
          have w4 : IntKind.i64.wrap (most - (n + 1 + ka + kb)) = most - (n + 1 + ka + kb) := wrap_of (by omega) (by omega)
          have w5 : IntKind.i64.wrap (n + 1 + ka + kb + r1) = n + 1 + ka + kb + r1 := wrap_of (by omega) (by omega)
          have w6 : IntKind.i64.wrap (most - (n + 1 + ka + kb + r1)) = most - (n + 1 + ka + kb + r1) := wrap_of (by omega) (by omega)
          have w7 : IntKind.i64.wrap (n + 1 + ka + kb + r1 + r2) = n + 1 + ka + kb + r1 + r2 := wrap_of (by omega) (by omega)
          have w8 : IntKind.i64.wrap (deep - 1) = deep - 1 := wrap_of (by omega) (by omega)
          (have ww1 := hlt; have ww2 := hk'; have ww3 := hnm; have ww4 := hd0'; have ww5 := hw; have ww6 := w1; have ww7 := w2; have ww8 := w3; have ww9 := w4; have ww10 := w5; have ww11 := w6; have ww12 := w7; have ww13 := w8; have cc1 := fun z1 => fa z1; have cc2 := fun z1 => fb z1; have cc3 := fun z1 => za z1; have cc4 := fun z1 => zb z1; have cc5 := fun z1 => c1 z1; have cc6 := fun z1 => c2 z1; refine wk ?_; clear ww1 ww2 ww3 ww4 ww5 ww6 ww7 ww8 ww9 ww10 ww11 ww12 ww13 cc1 cc2 cc3 cc4 cc5 cc6; (repeat' first | exact True.intro | refine Lf.mk ?_ ?_); all_goals intro hP)
          refine awp_drawnR_k (id := 7) [8, 16] [] [.win [0, 1, 2], .win [0, 1, 2], .win [0], .win [0], .win [0], .win [0], .win [0], .win [0], .eff 0, .win [1, 2], .win [0, 1], .win [0, 1], .win [0, 1], .win [0, 1], .win [0, 1], .win [0, 1], .eff 1, .win [2], .win [2]] 2 [7] rfl (by as_aux_lemma => kernel_rfl) fun Kn Kp hn hp => ?_
          (have ww1 := hlt; have ww2 := hk'; have ww3 := hnm; have ww4 := hd0'; have ww5 := hw; have ww6 := w1; have ww7 := w2; have ww8 := w3; have ww9 := w4; have ww10 := w5; have ww11 := w6; have ww12 := w7; have ww13 := w8; have cc1 := fun z1 => fa z1; have cc2 := fun z1 => fb z1; have cc3 := fun z1 => za z1; have cc4 := fun z1 => zb z1; have cc5 := fun z1 => c1 z1; have cc6 := fun z1 => c2 z1; refine wkS ?_; clear ww1 ww2 ww3 ww4 ww5 ww6 ww7 ww8 ww9 ww10 ww11 ww12 ww13 cc1 cc2 cc3 cc4 cc5 cc6; (repeat' first | exact True.intro | refine Lf.mk ?_ ?_); all_goals intro hP)
          refine hn _ _ ?_
          clear hn hp Kn Kp
          (have ww1 := hlt; have ww2 := hk'; have ww3 := hnm; have ww4 := hd0'; have ww5 := hw; have ww6 := w1; have ww7 := w2; have ww8 := w3; have ww9 := w4; have ww10 := w5; have ww11 := w6; have ww12 := w7; have ww13 := w8; have cc1 := fun z1 => fa z1; have cc2 := fun z1 => fb z1; have cc3 := fun z1 => za z1; have cc4 := fun z1 => zb z1; have cc5 := fun z1 => c1 z1; have cc6 := fun z1 => c2 z1; refine wkS ?_; clear ww1 ww2 ww3 ww4 ww5 ww6 ww7 ww8 ww9 ww10 ww11 ww12 ww13 cc1 cc2 cc3 cc4 cc5 cc6; (repeat' first | exact True.intro | refine Lf.mk ?_ ?_); all_goals intro hP)
          refine ⟨(i + 1, n + 1 + ka + kb + r1 + r2), by simp only; omega, ⟨by simp only; omega, by simp only; omega, by simp only; omega, by simp only; rw [hd, ← h4]⟩, ?_⟩
          (refine fgtX ?_; try exact True.intro)
      · rw [if_neg hnm] at h4
        (have ww1 := hlt; have ww2 := hnm; refine wk ?_; clear ww1 ww2; (repeat' first | exact True.intro | refine Lf.mk ?_ ?_); all_goals intro hP)
        (refine resX ?_; try exact True.intro)
        rw [h4]
theorem RFew5_run (p : Prg) (hl : p.vars.length ≤ 2000000) (hz : ∀ v ∈ p.vars, v.name.size ≤ 2000000) (hzn : p.name.size ≤ 2000000) (H0 : List AObj) : ARun Try.prog 11 [.ag (cP p)] H0 (.ret (.b (fewB5 p)) H0) := by
  have s0 := fun H0 => fsize_run _ p.on0 (Nat.le_refl _) 3000 200 H0 (by omega) (by omega) (by omega) (by omega)
  have s1 := fun H0 => fsize_run _ p.on1 (Nat.le_refl _) 3000 200 H0 (by omega) (by omega) (by omega) (by omega)
  have s2 := fun H0 => fsize_run _ p.on2 (Nat.le_refl _) 3000 200 H0 (by omega) (by omega) (by omega) (by omega)
  have s3 := fun H0 => fsize_run _ p.on3 (Nat.le_refl _) 3000 200 H0 (by omega) (by omega) (by omega) (by omega)
  have s4 := fun H0 => fsize_run _ p.on4 (Nat.le_refl _) 3000 200 H0 (by omega) (by omega) (by omega) (by omega)
  have k0 := szL_key p.on0 3000 200 0 (by omega)
  have k1 := szL_key p.on1 3000 200 0 (by omega)
  have k2 := szL_key p.on2 3000 200 0 (by omega)
  have k3 := szL_key p.on3 3000 200 0 (by omega)
  have k4 := szL_key p.on4 3000 200 0 (by omega)
  unfold fewB5
  generalize szL p.on0 3000 200 0 = z0 at *
  generalize szL p.on1 3000 200 0 = z1 at *
  generalize szL p.on2 3000 200 0 = z2 at *
  generalize szL p.on3 3000 200 0 = z3 at *
  generalize szL p.on4 3000 200 0 = z4 at *
  (refine ARun.intro Try.func11 rfl Try.call11 Try.ntmps11 Try.results11 ?_; simp only [List.length_cons, List.length_nil, List.length_map, Nat.reduceAdd, Nat.reduceSub, List.replicate_succ, List.replicate_zero, List.cons_append, List.nil_append])
  (refine wk ?_; (repeat' first | exact True.intro | refine Lf.mk ?_ ?_); all_goals intro hP)
  refine awp_loop_ind (σ := Nat) (fun k => p.vars.length - k) (fun k => k ≤ p.vars.length ∧ p.vars.all (fun v => decide (v.name.size ≤ 40)) = (p.vars.drop k).all (fun v => decide (v.name.size ≤ 40)))
    (fun k => (.any :: .p H0.length 0 :: .any :: .i k :: .any :: .any :: .any :: .any :: .any :: .any :: .any :: .any :: .any :: .any :: .any :: .any :: .any :: .any :: .any :: .any :: .any :: .any :: .any :: .any :: .any :: .any :: .any :: .any :: .any :: .any :: .any :: .any :: .any :: .any :: .any :: .any :: .any :: .any :: .any :: .any :: .any :: .any :: .any :: .any :: .any :: .any :: []))
    (fun k => H0 ++ [.cells 26 ((cP p).map AV.pv)]) 0 ⟨Nat.zero_le _, by simp⟩ (by (refine fgtX ?_; try exact True.intro)) ?_
  rintro k ⟨k1', k2'⟩
  cases hd : p.vars.drop k with
  | nil =>
    have hlt := drop_nil hd
    rw [hd] at k2'
    rw [k2', List.all_nil, Bool.true_and]
    have w1 : IntKind.i64.wrap (0 + z0) = z0 := by rw [wrap_of (by omega) (by omega)]; omega
    have w2 : IntKind.i64.wrap (z0 + z1) = z0 + z1 := wrap_of (by omega) (by omega)
    have w3 : IntKind.i64.wrap (z0 + z1 + z2) = z0 + z1 + z2 := wrap_of (by omega) (by omega)
    have w4 : IntKind.i64.wrap (z0 + z1 + z2 + z3) = z0 + z1 + z2 + z3 := wrap_of (by omega) (by omega)
    have w5 : IntKind.i64.wrap (z0 + z1 + z2 + z3 + z4) = z0 + z1 + z2 + z3 + z4 := wrap_of (by omega) (by omega)
    have lw := (List.length_map encV : (p.vars.map encV).length = p.vars.length)
    (have ww1 := hlt; have ww2 := lw; refine wk ?_; clear ww1 ww2; (repeat' first | exact True.intro | refine Lf.mk ?_ ?_); all_goals intro hP)
    refine awp_loop 6 ?_
    (have ww1 := w1; have ww2 := w2; have ww3 := w3; have ww4 := w4; have ww5 := w5; have ww6 := lw; have cc1 := fun z1 => s0 z1; have cc2 := fun z1 => s1 z1; have cc3 := fun z1 => s2 z1; have cc4 := fun z1 => s3 z1; have cc5 := fun z1 => s4 z1; refine wkO ?_; clear ww1 ww2 ww3 ww4 ww5 ww6 cc1 cc2 cc3 cc4 cc5; (repeat' first | exact True.intro | refine Lf.mk ?_ ?_); all_goals intro hP)
    all_goals ((refine resX ?_; try exact True.intro))
    all_goals (refine congrArg (fun b => AV.pv (PV.sc (Value.bool b))) ?_; rw [Bool.eq_iff_iff]; simp <;> omega)
  | cons v r =>
    obtain ⟨hvk, hlt, hr, hm⟩ := drop_cons hd
    have hw : IntKind.i64.wrap ((k : Int) + 1) = ((k + 1 : Nat) : Int) := by rw [wrap_of (by omega) (by omega)]; omega
    have hl' : (p.vars.map encV)[k]? = some (cV v) := by rw [List.getElem?_map, hvk]; rfl
    have hzv := hz v hm
    rw [hd, List.all_cons, ← hr] at k2'
    have lw := (List.length_map encV : (p.vars.map encV).length = p.vars.length)
    by_cases h40 : v.name.size ≤ 40
    · rw [decide_eq_true h40, Bool.true_and] at k2'
      (have ww1 := lw; have ww2 := hl'; have ww3 := hw; refine wkO ?_; clear ww1 ww2 ww3; (repeat' first | exact True.intro | refine Lf.mk ?_ ?_); all_goals intro hP)
      all_goals first
        | (refine ⟨k + 1, by omega, ⟨by omega, k2'⟩, ?_⟩; (refine fgtX ?_; try exact True.intro))
        | (exfalso; omega)
    · rw [decide_eq_false h40, Bool.false_and] at k2'
      rw [k2', Bool.false_and]
      (have ww1 := lw; have ww2 := hl'; have ww3 := hw; refine wkO ?_; clear ww1 ww2 ww3; (repeat' first | exact True.intro | refine Lf.mk ?_ ?_); all_goals intro hP)
      (refine resX ?_; try exact True.intro)
end Go.Proofs.Ytiifbdkedainnaa.Y

set_option maxHeartbeats 8000000
set_option maxRecDepth 100000
set_option linter.unusedVariables false
set_option linter.unusedSimpArgs false
set_option linter.unusedSectionVars false
namespace Go.Proofs.Ytiifbdkedainnaa.Y
open Go.Proofs.Ytiifbdkedainnaa.AL Go.Proofs Go
attribute [local irreducible] AWP AWL AWG AWR AWE AWX AWO AWSeq AWSG AWSR AWSO AWSE AWSF GoodP OGW OGR OGE OGX PGW PGR PGE Wk AWLoop AWPD AWLD
theorem dr3_6_X21a : Drawn Try.prog 6 (regOps 6 ((Try.f3.body).getD .skip)) [4, 14, 17, 25, 30] [] [.win [0], .win [0], .win [0], .win [0], .eff 0, .win [1], .win [1], .win [1], .win [1], .win [1], .win [1], .win [1], .win [1], .win [1], .eff 1, .win [1, 2], .win [1, 2], .eff 2, .win [3], .win [3], .win [3], .win [3], .win [3], .win [3], .win [3], .eff 3, .win [3, 4], .win [3, 4], .win [3, 4], .win [3, 4], .eff 4, .win [5], .win [5], .win [5]] 5 [] := ⟨rfl, by as_aux_lemma => kernel_rfl⟩

/-- What a law must know of a program. -/
structure PFine (p : Prg) : Prop where
  f : fine1 p
  z : p.name.size ≤ 2000000
  zv : ∀ v ∈ p.vars, v.name.size ≤ 2000000
theorem PFine.few {p : Prg} (h : PFine p) (H0 : List AObj) : ARun Try.prog 11 [.ag (cP p)] H0 (.ret (.b (fewB5 p)) H0) :=
  RFew5_run p (by have := h.f; unfold fine1 at this; omega) h.zv h.z H0
theorem PFine.rvalid {p : Prg} (h : PFine p) (H0 : List AObj) : ARun Try.prog 18 [.ag (cP p)] H0 (.ret (.b (validB p)) H0) := RValid_run p h.f h.z h.zv H0
theorem PFine.comp {p : Prg} (h : PFine p) (hf : fewB5 p = true) (H0 : List AObj) : ARun Try.prog 13 [.ag (cP p)] H0 (.ret (.tup [.ag (cC (compS p).1), .i (compS p).2]) H0) :=
  CCompile_run p (by have := (few5_all hf).2.1; omega) h.z h.zv (by have := (few5_all hf).2.2.2; omega) H0
theorem PFine.rcomp {p : Prg} (h : PFine p) (hf : fewB5 p = true) (H0 : List AObj) : ARun Try.prog 14 [.ag (cP p)] H0 (.ret (.tup [.ag (cC (compS p).1), .i (compS p).2]) H0) :=
  RCompile_run p h.f h.z h.zv (by have := (few5_all hf).2.2.2; omega) H0
theorem compS_fine (p : Prg) : CodFine (compS p).1 := by
  unfold compS
  split
  · split
    · exact ⟨by simp only; omega, by simp only; omega, by simp only; omega, by simp only; omega, by simp only; omega⟩
    · exact ⟨by decide, by decide, by decide, by decide, by decide⟩
  · exact ⟨by decide, by decide, by decide, by decide, by decide⟩
theorem shortS_fine {c : Cod} {n : Int} (h : shortS c n = true) (hn : n ≤ 2000000) : CodFine c := by
  simp only [shortS, Bool.and_eq_true, decide_eq_true_eq] at h
  exact ⟨by omega, by omega, by omega, by omega, by omega⟩
theorem sameC_refl (c : Cod) : sameC c c = true := by simp [sameC, sameI]
theorem CodeMR_run (p : Prg) (c : Cod) (vars : Int) (hp : PFine p) (H0 : List AObj) :
    ARun Try.prog 3 [.ag (cP p), agC c, .i vars] H0 (.ret (.b true) H0) := by
  have hh := fun H0 => head9_run H0
  have hf := fun H0 => hp.few H0
  have hs := fun H0 => RShort9_run c 4100 H0
  cases hfew : fewB5 p with
  | false =>
    simp only [hfew] at hf
    (refine ARun.intro Try.func3 rfl Try.call3 Try.ntmps3 Try.results3 ?_; simp only [List.length_cons, List.length_nil, List.length_map, Nat.reduceAdd, Nat.reduceSub, List.replicate_succ, List.replicate_zero, List.cons_append, List.nil_append])
    (have rr1 := dr3_6_X21a; have cc1 := fun z1 => hh z1; have cc2 := fun z1 => hf z1; refine wk ?_; clear rr1 cc1 cc2; (repeat' first | exact True.intro | refine Lf.mk ?_ ?_); all_goals intro hP)
    (refine resX ?_; try exact True.intro)
  | true =>
    simp only [hfew] at hf
    cases hsh : shortS c 4100 with
    | false =>
      simp only [hsh] at hs
      (refine ARun.intro Try.func3 rfl Try.call3 Try.ntmps3 Try.results3 ?_; simp only [List.length_cons, List.length_nil, List.length_map, Nat.reduceAdd, Nat.reduceSub, List.replicate_succ, List.replicate_zero, List.cons_append, List.nil_append])
      (have rr1 := dr3_6_X21a; have cc1 := fun z1 => hh z1; have cc2 := fun z1 => hf z1; have cc3 := fun z1 => hs z1; refine wk ?_; clear rr1 cc1 cc2 cc3; (repeat' first | exact True.intro | refine Lf.mk ?_ ?_); all_goals intro hP)
      (refine resX ?_; try exact True.intro)
    | true =>
      simp only [hsh] at hs
      have c1 := fun H0 => hp.comp hfew H0
      have c2 := fun H0 => hp.rcomp hfew H0
      have cf := compS_fine p
      generalize compS p = r at *
      have s1 := fun H0 => RSameC_run r.1 r.1 H0
      rw [sameC_refl] at s1
      have v1 := fun H0 => CVerify_run c vars (shortS_fine hsh (by omega)) H0
      have v2 := fun H0 => RVerify_run c vars (shortS_fine hsh (by omega)) H0
      have v3 := fun H0 => CVerify_run r.1 p.vars.length cf H0
      have v4 := fun H0 => RVerify_run r.1 p.vars.length cf H0
      generalize verC c vars = b1 at *
      generalize verC r.1 p.vars.length = b2 at *
      (refine ARun.intro Try.func3 rfl Try.call3 Try.ntmps3 Try.results3 ?_; simp only [List.length_cons, List.length_nil, List.length_map, Nat.reduceAdd, Nat.reduceSub, List.replicate_succ, List.replicate_zero, List.cons_append, List.nil_append])
      (have rr1 := dr3_6_X21a; have cc1 := fun z1 => hh z1; have cc2 := fun z1 => hf z1; have cc3 := fun z1 => hs z1; have cc4 := fun z1 => c1 z1; have cc5 := fun z1 => c2 z1; have cc6 := fun z1 => s1 z1; have cc7 := fun z1 => v1 z1; have cc8 := fun z1 => v2 z1; have cc9 := fun z1 => v3 z1; have cc10 := fun z1 => v4 z1; refine wk ?_; clear rr1 cc1 cc2 cc3 cc4 cc5 cc6 cc7 cc8 cc9 cc10; (repeat' first | exact True.intro | refine Lf.mk ?_ ?_); all_goals intro hP)
      (refine resX ?_; try exact True.intro)
theorem comp_ver {p : Prg} (h : (compS p).2 = 0) : verC (compS p).1 p.vars.length = true := by
  unfold compS at *
  split at h
  · rename_i hv
    rw [if_pos hv]
    obtain ⟨vs, V⟩ := validB_val hv
    split at h
    · rename_i hl
      rw [if_pos hl]
      have e := V.len
      have := V.hi
      unfold verC
      rw [← e, decide_eq_true (show (0 : Int) ≤ vs.length ∧ (vs.length : Int) ≤ 12 by omega), code_ver V.h0.1 V.h0.2.1 hl.1, code_ver V.h1.1 V.h1.2.1 hl.2.1, code_ver V.h2.1 V.h2.2.1 hl.2.2.1, code_ver V.h3.1 V.h3.2.1 hl.2.2.2.1, code_ver V.h4.1 V.h4.2.1 hl.2.2.2.2]
      rfl
    · contradiction
  · contradiction
theorem comp_valid {p : Prg} (h : validB p = true) : (compS p).2 = 0 ∨ (compS p).2 = 2 := by
  unfold compS; rw [if_pos h]; split <;> simp
theorem comp_bad {p : Prg} (h : validB p = false) : compS p = (cod0, 1) := by
  unfold compS; rw [h]; rfl
theorem CodeCompiles_run (p : Prg) (hp : PFine p) (H0 : List AObj) :
    ARun Try.prog 4 [.ag (cP p)] H0 (.ret (.b true) H0) := by
  have hh := fun H0 => head9_run H0
  have hf := fun H0 => hp.few H0
  cases hfew : fewB5 p with
  | false =>
    simp only [hfew] at hf
    (refine ARun.intro Try.func4 rfl Try.call4 Try.ntmps4 Try.results4 ?_; simp only [List.length_cons, List.length_nil, List.length_map, Nat.reduceAdd, Nat.reduceSub, List.replicate_succ, List.replicate_zero, List.cons_append, List.nil_append])
    (have cc1 := fun z1 => hh z1; have cc2 := fun z1 => hf z1; refine wk ?_; clear cc1 cc2; (repeat' first | exact True.intro | refine Lf.mk ?_ ?_); all_goals intro hP)
    (refine resX ?_; try exact True.intro)
  | true =>
    simp only [hfew] at hf
    have c1 := fun H0 => hp.comp hfew H0
    have cv := fun H0 => hp.rvalid H0
    cases hval : validB p with
    | false =>
      rw [hval] at cv
      rw [comp_bad hval] at c1
      have s1 := RSameC_run cod0 cod0 []
      rw [sameC_refl] at s1
      (refine ARun.intro Try.func4 rfl Try.call4 Try.ntmps4 Try.results4 ?_; simp only [List.length_cons, List.length_nil, List.length_map, Nat.reduceAdd, Nat.reduceSub, List.replicate_succ, List.replicate_zero, List.cons_append, List.nil_append])
      (have cc1 := fun z1 => hh z1; have cc2 := fun z1 => hf z1; have cc3 := fun z1 => c1 z1; have cc4 := fun z1 => cv z1; have dd1 := s1; refine wk ?_; clear cc1 cc2 cc3 cc4 dd1; (repeat' first | exact True.intro | refine Lf.mk ?_ ?_); all_goals intro hP)
      (refine resX ?_; try exact True.intro)
    | true =>
      rw [hval] at cv
      have v1 := fun H0 => CVerify_run (compS p).1 p.vars.length (compS_fine p) H0
      have hc := comp_valid hval
      have hver := fun h => comp_ver (p := p) h
      rcases hc with h0 | h2
      · rw [hver h0] at v1
        (refine ARun.intro Try.func4 rfl Try.call4 Try.ntmps4 Try.results4 ?_; simp only [List.length_cons, List.length_nil, List.length_map, Nat.reduceAdd, Nat.reduceSub, List.replicate_succ, List.replicate_zero, List.cons_append, List.nil_append])
        (have ww1 := h0; have cc1 := fun z1 => hh z1; have cc2 := fun z1 => hf z1; have cc3 := fun z1 => c1 z1; have cc4 := fun z1 => cv z1; have cc5 := fun z1 => v1 z1; refine wk ?_; clear ww1 cc1 cc2 cc3 cc4 cc5; (repeat' first | exact True.intro | refine Lf.mk ?_ ?_); all_goals intro hP)
        (refine resX ?_; try exact True.intro)
      · (refine ARun.intro Try.func4 rfl Try.call4 Try.ntmps4 Try.results4 ?_; simp only [List.length_cons, List.length_nil, List.length_map, Nat.reduceAdd, Nat.reduceSub, List.replicate_succ, List.replicate_zero, List.cons_append, List.nil_append])
        (have ww1 := h2; have cc1 := fun z1 => hh z1; have cc2 := fun z1 => hf z1; have cc3 := fun z1 => c1 z1; have cc4 := fun z1 => cv z1; refine wk ?_; clear ww1 cc1 cc2 cc3 cc4; (repeat' first | exact True.intro | refine Lf.mk ?_ ?_); all_goals intro hP)
        (refine resX ?_; try exact True.intro)
end Go.Proofs.Ytiifbdkedainnaa.Y

set_option linter.unusedVariables false
namespace Go.Proofs.Ytiifbdkedainnaa.Y
open Go.Proofs.Ytiifbdkedainnaa.AL Go.Proofs Go
attribute [local irreducible] AWP AWL AWG AWR AWE AWX AWO AWSeq AWSG AWSR AWSO AWSE AWSF GoodP OGW OGR OGE OGX PGW PGR PGE Wk AWLoop AWPD AWLD

theorem sumM_mem {α : Type} {μ : α → Nat} {a : α} : ∀ {l : List α}, a ∈ l → μ a ≤ sumM μ l
  | x :: xs, h => by
    simp only [sumM]
    rcases List.mem_cons.1 h with rfl | h
    · omega
    · have := sumM_mem (μ := μ) h; omega
theorem PFine.of {p : Prg} (h : wP p ≤ 1048577) : PFine p := by
  have := manyL_le p.on0; have := manyL_le p.on1; have := manyL_le p.on2; have := manyL_le p.on3; have := manyL_le p.on4
  have := len_sumM (μ := wV) (fun _ => by simp [wV]) p.vars
  simp only [wP] at h
  refine ⟨?_, by omega, fun v hv => ?_⟩
  · unfold fine1; omega
  · have := sumM_mem (μ := wV) hv
    simp only [wV] at this
    omega
end Go.Proofs.Ytiifbdkedainnaa.Y

namespace Go.Proofs.Ytiifbdkedainnaa.Y
open Go.Proofs.Ytiifbdkedainnaa.AL Go.Proofs Go
attribute [local irreducible] AWP AWL AWG AWR AWE AWX AWO AWSeq AWSG AWSR AWSO AWSE AWSF GoodP OGW OGR OGE OGX PGW PGR PGE Wk AWLoop AWPD AWLD
abbrev bk (H : Type) (d : DataW H) : Nat := Go.Proofs.Ytiifbdkedainnaa.Rows.uptoBulk d
abbrev bkl (H : Type) (d : List (DataW H)) : Nat := Go.Proofs.Ytiifbdkedainnaa.Rows.uptoBulkAll d
theorem bulk : Bulk bk bkl where
  lit := fun H l => by cases l <;> simp [bk, Go.Proofs.Ytiifbdkedainnaa.Rows.uptoBulk]
  str := fun H b => by simp [bk, Go.Proofs.Ytiifbdkedainnaa.Rows.uptoBulk]
  nil := fun H => by simp [bk, Go.Proofs.Ytiifbdkedainnaa.Rows.uptoBulk]
  slice := fun H es sp => by simp [bk, bkl, Go.Proofs.Ytiifbdkedainnaa.Rows.uptoBulk]
  agg := fun H ps => by simp [bk, bkl, Go.Proofs.Ytiifbdkedainnaa.Rows.uptoBulk]
  lnil := fun H => by simp [bkl, Go.Proofs.Ytiifbdkedainnaa.Rows.uptoBulkAll]
  lcons := fun H d l => by simp [bk, bkl, Go.Proofs.Ytiifbdkedainnaa.Rows.uptoBulkAll]

theorem laidOut : laidOutB Try.prog = true := by kernel_rfl
theorem own : ownKnob Try.prog.godebug = none := by kernel_rfl
theorem len1 {α : Type} {l : List α} (h : l.length = 1) : ∃ a, l = [a] := by
  match l, h with | [a], _ => exact ⟨a, rfl⟩
theorem bulk_bound {H : Type} {l : List (DataW H)} (hk : Go.Proofs.Ytiifbdkedainnaa.Rows.uptoSmall H l = true) : bkl H l ≤ 1048576 := of_decide_eq_true hk
end Go.Proofs.Ytiifbdkedainnaa.Y
