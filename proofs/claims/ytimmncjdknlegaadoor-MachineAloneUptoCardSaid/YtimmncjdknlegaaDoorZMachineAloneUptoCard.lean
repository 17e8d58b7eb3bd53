/- Proves: MachineAlone, for all arguments that hold together at most 1048576 values and letters: the law returns true, and the arguments read as before. -/
import Derived.Test.YtimmncjdknlegaaDoorM4
import Derived.ProofKit
import Derived.Deep.DeepHandedRow
import Derived.Lib.LaidTab
import Derived.Stop.LaidErr
import Derived.LaidMore
import Derived.Test.YtimmncjdknlegaaDoorCards
import Derived.Test.YtimmncjdknlegaaDoorTie
import Derived.OpenShut
import Derived.JoinedCond
import Derived.WalkKit


set_option maxRecDepth 100000
set_option maxHeartbeats 4000000
set_option linter.unusedVariables false
set_option linter.unusedSimpArgs false
namespace Go.Proofs.YtimmncjdknlegaaDoor.Y
open Go.Proofs.YtimmncjdknlegaaDoor.AL Go.Proofs Go Go.ChangeShapes Go.WideShapes Go.RowKit Go.ChangeAt
open Go.Proofs.YtimmncjdknlegaaDoor
theorem cellOld {W : World} {g j : Nat} {v : Value} (h : W.cell? ⟨g, j, none⟩ = some v) : Old W g := by
  exact World.block_lt_of_cell? _ _ h
theorem cellAdd {W : World} {g j : Nat} {v : Value} (h : W.cell? ⟨g, j, none⟩ = some v) : W.cell? ((⟨g, 0, none⟩ : Addr).add j) = some v := by
  have e : ((⟨g, 0, none⟩ : Addr).add j) = ⟨g, j, none⟩ := by unfold Addr.add; split <;> simp_all
  rw [e]; exact h
/-- What the laid tables give. -/
theorem gtabL {W : World} (h : laidMetH Tryd.prog Rows.machineAloneUptoRow.laid W) : GRel W (Old W) := by
  rw [MakeChecks.laidMetH_plain _ _ _ (by kernel_rfl)] at h
  have hg0 : Tryd.prog.globalNamed "queuelab/machine.least" = some 0 := by kernel_rfl
  have ht0 : Lib.TabIs Tryd.prog W "queuelab/machine.least" .i64 [1, 1, 1, 0] := Lib.tabIs_of_head (g := 0) (t := 28) (e := 3) hg0 (by kernel_rfl) Tryd.underlying28 Tryd.underlying3 (by kernel_rfl) (by kernel_rfl) h
  have hg1 : Tryd.prog.globalNamed "queuelab/machine.most" = some 1 := by kernel_rfl
  have ht1 : Lib.TabIs Tryd.prog W "queuelab/machine.most" .i64 [1000, 10000000, 10000, 4000] := Lib.tabIs_of_head (g := 1) (t := 28) (e := 3) hg1 (by kernel_rfl) Tryd.underlying28 Tryd.underlying3 (by kernel_rfl) (by kernel_rfl) h.tail
  intro g cells hc j p hj
  have hgc := hc
  simp only [GTab.tab] at hc
  by_cases e0 : g = 0
  · subst e0
    simp only [if_true, reduceCtorEq, if_false, Nat.reduceEqDiff,  Option.some.injEq] at hc
    subst hc
    have hjl := (List.getElem?_eq_some_iff.1 hj).1
    simp only [List.length_cons, List.length_nil] at hjl
    have hcell := ht0.cell hg0 j (by simpa using hjl)
    refine ⟨cellOld hcell, _, cellAdd hcell, ?_⟩
    have : j = 0 ∨ j = 1 ∨ j = 2 ∨ j = 3 := by omega
    rcases this with rfl | rfl | rfl | rfl <;> (simp at hj; subst hj; exact .sc rfl)
  by_cases e1 : g = 1
  · subst e1
    simp only [if_true, reduceCtorEq, if_false, Nat.reduceEqDiff,  Option.some.injEq] at hc
    subst hc
    have hjl := (List.getElem?_eq_some_iff.1 hj).1
    simp only [List.length_cons, List.length_nil] at hjl
    have hcell := ht1.cell hg1 j (by simpa using hjl)
    refine ⟨cellOld hcell, _, cellAdd hcell, ?_⟩
    have : j = 0 ∨ j = 1 ∨ j = 2 ∨ j = 3 := by omega
    rcases this with rfl | rfl | rfl | rfl <;> (simp at hj; subst hj; exact .sc rfl)
  simp only [e0, if_false, e1, if_false] at hc
  exact absurd hc (by simp)
theorem contractMachineAlone (H : Type) (enc : TypeId × Value → H) (W : World) (base : Nat) (args : Array Value) (ds gs : List (DataW H)) (before : List MemPlace)
    (hval : ∀ (j : Nat) t v, Tryd.f6.params[j]? = some t → args[j]? = some v → Value.okWide Tryd.prog W .any base t v)
    (hW : DataW.Whole enc Tryd.prog Tryd.f6.params.toList Rows.machineAloneSpec.vars false W args.toList ds gs before) (hk : Rows.uptoSmall H (ds ++ gs) = true) (hL : laidMetH Tryd.prog Rows.machineAloneUptoRow.laid W) :
    Calls Tryd.prog 6 args W fun e W' => ∃ v, e = .returned v ∧ Rows.machineAloneSpec.post enc Tryd.prog Tryd.f6 false true false false W args v W' := by
  have hW' := hW
  obtain ⟨p, q, hA0, hV, hbe, hfz, hnd⟩ := hW
  have hlt : ∀ x ∈ p, x.block < W.heap.size := fun x hx => hW'.lt x (by rw [hbe]; simp [hx])
  have hA : DataW.TrodAll enc Tryd.prog W 0 (fun _ => true) true Tryd.f6.params.toList args.toList ds p := hA0
  rw [Tryd.params6] at hA hval
  obtain ⟨v0, vs0, d0, ds0, p0, q0, hargs0, rfl, rfl, h0, r0⟩ := trodAll_cons hA
  obtain ⟨v1, vs1, d1, ds1, p1, q1, hargs1, rfl, rfl, h1, r1⟩ := trodAll_cons r0
  obtain ⟨v2, vs2, d2, ds2, p2, q2, hargs2, rfl, rfl, h2, r2⟩ := trodAll_cons r1
  obtain ⟨v3, vs3, d3, ds3, p3, q3, hargs3, rfl, rfl, h3, r3⟩ := trodAll_cons r2
  obtain ⟨rfl, rfl, rfl⟩ := trodAll_nil r3
  obtain rfl : args = #[v0, v1, v2, v3] := by
    cases args; simp_all
  have hb := bulk_bound hk
  simp only [List.cons_append, List.nil_append, bulk.lcons] at hb
  obtain ⟨a0, k0, m0, w0⟩ := Rd.arg rdVs h0 (fun x hx => hlt x (by simp [hx]))
  (try dsimp only at k0 m0)
  have x0 : ARel W (fun _ => none) (Old W) [] (.rs 5 (a0.map encV)) v0 := arg_slice Tryd.underlying22 (hval 0 _ _ rfl rfl) k0
  obtain ⟨a1, k1, m1, w1⟩ := Rd.arg rdC h1 (fun x hx => hlt x (by simp [hx]))
  (try dsimp only at k1 m1)
  have x1 : ARel W (fun _ => none) (Old W) [] (agC a1) v1 := arg_struct Tryd.underlying26 (hval 1 _ _ rfl rfl) k1
  obtain ⟨a2, k2, m2, w2⟩ := Rd.arg rdI1 h2 (fun x hx => hlt x (by simp [hx]))
  (try dsimp only at k2 m2)
  have x2 : ARel W (fun _ => none) (Old W) [] (.rs 1 (rI a2)) v2 := arg_slice Tryd.underlying27 (hval 2 _ _ rfl rfl) k2
  obtain ⟨a3, k3, m3, w3⟩ := Rd.arg rdL h3 (fun x hx => hlt x (by simp [hx]))
  (try dsimp only at k3 m3)
  have x3 : ARel W (fun _ => none) (Old W) [] (agL a3) v3 := arg_struct Tryd.underlying30 (hval 3 _ _ rfl rfl) k3
  refine law_post (gtabL hL) laidOut hW' rfl ?_ rfl Tryd.underlying4 rfl rfl rfl (ARelL.cons x0 (ARelL.cons x1 (ARelL.cons x2 (ARelL.cons x3 (ARelL.nil))))) (MAlone_run a0 a1 a2 a3 (by have := wI_len a1.c0; have := wI_len a1.c1; have := wI_len a1.c2; have := wI_len a1.c3; have := wI_len a1.c4; simp only [wC] at m1; refine ⟨?_, ?_, ?_, ?_, ?_⟩ <;> omega) (by have := len_sumM (μ := wV) (fun _ => by simp [wV]) a0; omega) (by have := len_sumM (μ := fun _ : Int => 1) (fun _ => Nat.le_refl 1) a2; omega) [])
  intro t ht
  rw [Tryd.params6] at ht
  simp only [List.toList_toArray, List.mem_cons, List.not_mem_nil, or_false] at ht
  rcases ht with rfl | rfl | rfl | rfl
  all_goals exact ⟨by kernel_rfl, of_decide_eq_true (by kernel_rfl)⟩
noncomputable def laidWorld (os : Os) : World :=
  { World.holding Tryd.prog os ⟨#[], #[], []⟩ with heap := (((World.holding Tryd.prog os ⟨#[], #[], []⟩).heap.modify 0 fun
      | .cells _ t frozen => .cells #[.int .i64 1, .int .i64 1, .int .i64 1, .int .i64 0] t frozen
      | o => o).modify 1 fun
      | .cells _ t frozen => .cells #[.int .i64 1000, .int .i64 10000000, .int .i64 10000, .int .i64 4000] t frozen
      | o => o) }
theorem laid_met (os : Os) : laidMetH Tryd.prog Rows.machineAloneUptoRow.laid ((laidWorld os).forCall (fun _ _ => 0) ⟨#[], #[.slice none 0 0, .agg #[.slice none 0 0, .slice none 0 0, .slice none 0 0, .slice none 0 0, .slice none 0 0], .slice none 0 0, .agg #[.int .i64 0, .int .i64 0, .int .i64 0, .int .i64 0, .int .i64 0]], []⟩).memory := by
  rw [MakeChecks.laidMetH_plain _ _ _ (by kernel_rfl)]
  exact laidMet_of_run' 8 (by kernel_rfl) (by kernel_rfl)
theorem reads (os : Os) {H : Type} (enc : TypeId × Value → H) : ∃ places, DataW.whole enc Tryd.prog ((laidWorld os).forCall (fun _ _ => 0) ⟨#[], #[.slice none 0 0, .agg #[.slice none 0 0, .slice none 0 0, .slice none 0 0, .slice none 0 0, .slice none 0 0], .slice none 0 0, .agg #[.int .i64 0, .int .i64 0, .int .i64 0, .int .i64 0, .int .i64 0]], []⟩).memory Tryd.f6.params.toList Rows.machineAloneSpec.vars false #[.slice none 0 0, .agg #[.slice none 0 0, .slice none 0 0, .slice none 0 0, .slice none 0 0, .slice none 0 0], .slice none 0 0, .agg #[.int .i64 0, .int .i64 0, .int .i64 0, .int .i64 0, .int .i64 0]].toList 8 = some ([.nil, .agg [.agg [.nil, .nil, .nil, .nil, .nil]], .nil, .agg [.lit (.int .i64 0), .agg [.lit (.int .i64 0), .lit (.int .i64 0), .lit (.int .i64 0), .lit (.int .i64 0)]]], [], places) :=
  ⟨[], by kernel_rfl⟩
theorem liftedMachineAlone (os : Os) (started : os.Started) (H : Type) (enc : TypeId × Value → H) (F : Stop.Interp) :
    ReturnsInHanded {} Tryd.checked os 6 .any ((Rows.OpenSpec.upto Rows.machineAloneSpec).preRow enc Tryd.prog Tryd.f6 Rows.machineAloneUptoRow.domain false Rows.machineAloneUptoRow.laid) (((Rows.OpenSpec.upto Rows.machineAloneSpec).at F).post enc Tryd.prog Tryd.f6 false true false false) := by
  obtain ⟨places, hx⟩ := reads os enc
  refine returnsInHanded_of_row (C := Tryd.checked) (s := Rows.OpenSpec.upto Rows.machineAloneSpec) own started (by kernel_rfl) Tryd.func6
    (witness_row_at (enc := enc) (C := Tryd.checked) false (laidWorld os) #[.slice none 0 0, .agg #[.slice none 0 0, .slice none 0 0, .slice none 0 0, .slice none 0 0, .slice none 0 0], .slice none 0 0, .agg #[.int .i64 0, .int .i64 0, .int .i64 0, .int .i64 0, .int .i64 0]] rfl (by kernel_rfl) (by kernel_rfl) (by kernel_rfl)
      (OpenSpec.preRow_of_cond 8 hx (by kernel_rfl) (fun k hk => by cases hk; kernel_rfl) (by kernel_rfl) (laid_met os))) ?_
  intro W base args ds gs before hval hW _ hcond _ hL _ _
  exact contractMachineAlone H enc W base args ds gs before hval hW (hcond _ rfl) hL
theorem overMachineAlone : Rows.MachineAloneUptoSaid :=
  OpenClaim.holds_of_cond 6 Tryd.f6 rfl rfl rfl rfl rfl rfl rfl ⟨rfl, rfl, rfl, rfl, rfl⟩ rfl rfl rfl rfl rfl (by kernel_rfl) Tryd.func6 (by kernel_rfl)
    (of_decide_eq_true (by kernel_rfl)) (by unfold Func.isWrapper; first | (rw [if_pos (by decide +kernel)]; kernel_rfl) | (rw [if_neg (by decide +kernel)]; exact ⟨rfl, rfl⟩))
    (fun os started H enc _ F => by rw [OpenClaim.pre_eq_preRow]; exact liftedMachineAlone os started H enc F)
theorem plainMachineAlone (f : FuncId) (fn : Func) (hf : Tryd.pinned.checked.prog.funcNamed "queuelab/queuelablaw10.MachineAlone" = some f) (hfn : Tryd.pinned.checked.prog.funcs[f]? = some fn) :
    false = Tryd.pinned.checked.prog.looks [] ∧ ∀ (j : Nat) t, fn.params[j]? = some t → Tryd.pinned.checked.prog.wantsStandIn t = false := by
  obtain rfl : f = 6 := Option.some.inj ((show Tryd.prog.funcNamed "queuelab/queuelablaw10.MachineAlone" = some 6 by kernel_rfl).symm.trans hf) |>.symm
  obtain rfl : fn = Tryd.f6 := (Option.some.inj (Tryd.func6.symm.trans hfn)).symm
  refine ⟨by kernel_rfl, fun j t ht => ?_⟩
  rw [Tryd.params6] at ht
  have hm : t ∈ Tryd.f6.params.toList := by rw [Tryd.params6]; simpa using Array.mem_of_getElem? ht
  have hall : (Tryd.f6.params.toList.all fun u => !Tryd.prog.wantsStandIn u) = true := by kernel_rfl
  exact (show Tryd.prog.wantsStandIn t = false by simpa using List.all_eq_true.1 hall t hm)
theorem cardMachineAlone : Rows.MachineAloneUptoCardSaid :=
  Claim7.holds_tied_plain_at .later [] _ _ _ _ overMachineAlone (fun _ h => by cases h) (by kernel_rfl) (fun _ h => by cases h) machineAloneUpto_row_tie rfl ⟨rfl, rfl⟩ (by kernel_rfl) rfl plainMachineAlone (by kernel_rfl)
end Go.Proofs.YtimmncjdknlegaaDoor.Y
namespace Go.Proofs.YtimmncjdknlegaaDoor
theorem machineAlone_holds : Rows.MachineAloneUptoCardSaid := Go.Proofs.YtimmncjdknlegaaDoor.Y.cardMachineAlone
end Go.Proofs.YtimmncjdknlegaaDoor
