/- Part 5 of the proofs of seat YtpfjlifneibhfaaGreat: what the texts behind it lean on (abstract memory, walks of functions, plain laws). -/
import Derived.Test.YtpfjlifneibhfaaGreatB4
import Derived.Test.YtpfjlifneibhfaaGreatRows
set_option linter.unusedSectionVars false
set_option linter.unusedSimpArgs false
set_option linter.unusedVariables false
set_option maxHeartbeats 100000000
set_option maxRecDepth 100000
namespace Go.Proofs.YtpfjlifneibhfaaGreat.Y
open Go.Proofs.YtpfjlifneibhfaaGreat.AL Go.Proofs Go
attribute [local irreducible] AWP AWL AWG AWR AWE AWX AWO AWSeq AWSG AWSR AWSO AWSE AWSF GoodP OGW OGR OGE OGX PGW PGR PGE Wk AWLoop AWPD AWLD
theorem CValid_run (p : Prg) (hl : p.vars.length ≤ 1000000) (hok : okP p) (hz : p.name.size ≤ 2000000) (hzv : ∀ v ∈ p.vars, v.name.size ≤ 2000000) (H0 : List AObj) :
    ARun Tryz.prog 32 [.ag (cP p)] H0 (.ret (.b (validB p)) H0) := by
  rw [← ctlB_eq]
  have n1 := fun H0 => nameC_run p.name hz H0
  by_cases hlen : 1 ≤ p.vars.length ∧ p.vars.length ≤ 12
  · obtain ⟨len1, len2⟩ := hlen
    cases hnm : nameB p.name with
    | false =>
      rw [hnm] at n1
      have hr : ctlB p = false := by unfold ctlB; rw [hnm]; simp
      rw [hr]
      clear hr
      (refine ARun.intro Tryz.func32 rfl Tryz.call32 Tryz.ntmps32 Tryz.results32 ?_; simp only [List.length_cons, List.length_nil, List.length_map, Nat.reduceAdd, Nat.reduceSub, List.replicate_succ, List.replicate_zero, List.cons_append, List.nil_append])
      (have cc1 := fun z1 => n1 z1; refine wkO ?_; clear cc1; (repeat' first | exact True.intro | refine Lf.mk ?_ ?_); all_goals intro hP)
      (refine resX ?_; try exact True.intro)
    | true =>
      rw [hnm] at n1
      have hr : ctlB p = (onceC p.vars [] && (decide ((checkS p).1 < 0) && (decide ((checkS p).2 = 0) && (usesB p.vars p.window 1 && (decide (p.pace = -1) || usesB p.vars p.pace 4))))) := by
        unfold ctlB; rw [hnm, decide_eq_true len1, decide_eq_true len2]; simp
      rw [hr]
      clear hr
      have c1 := fun H0 => Check_run p hl hok H0
      have c2 := fun H0 => hasUnit_run p.vars p.window 1 (by omega) H0
      have c3 := fun H0 => hasUnit_run p.vars p.pace 4 (by omega) H0
      have zb := zeroBool
      (refine ARun.intro Tryz.func32 rfl Tryz.call32 Tryz.ntmps32 Tryz.results32 ?_; simp only [List.length_cons, List.length_nil, List.length_map, Nat.reduceAdd, Nat.reduceSub, List.replicate_succ, List.replicate_zero, List.cons_append, List.nil_append])
      (have cc1 := fun z1 => n1 z1; refine wkO ?_; clear cc1; (repeat' first | exact True.intro | refine Lf.mk ?_ ?_); all_goals intro hP)
      refine awp_loop_ind (σ := Nat) (fun k => p.vars.length - k) (fun k => k ≤ p.vars.length ∧ onceC p.vars [] = onceC (p.vars.drop k) ((p.vars.take k).map (·.name)))
        (fun k => (.any :: .p H0.length 0 :: .any :: .mp (H0.length + 1) :: .any :: .any :: .any :: .any :: .any :: .any :: .any :: .any :: .any :: .any :: .any :: .any :: .any :: .any :: .any :: .any :: .any :: .any :: .any :: .any :: .any :: .any :: .rs 5 (p.vars.map encV) :: .i p.vars.length :: .i k :: .any :: .any :: .any :: .any :: .any :: .any :: .any :: .any :: .any :: .any :: .any :: .any :: .any :: .any :: .any :: .any :: .any :: .any :: .any :: .any :: .any :: .any :: .any :: .any :: .any :: .any :: .any :: .any :: .any :: .any :: .any :: .any :: .any :: .any :: .any :: .any :: .any :: .any :: .any :: .any :: .any :: .any :: .any :: .any :: .any :: .any :: .any :: .any :: .any :: .any :: .any :: .any :: .any :: .any :: .any :: .any :: .any :: .any :: .any :: .any :: .any :: .any :: .any :: .any :: .any :: .any :: .any :: .any :: .any :: .any :: .any :: []))
        (fun k => H0 ++ [.cells 26 ((cP p).map AV.pv), .smap (seenM ((p.vars.take k).map (·.name)))]) 0 ⟨Nat.zero_le _, by simp⟩ (by (refine fgtX ?_; try exact True.intro)) ?_
      rintro k ⟨k1, k2⟩
      have hw : IntKind.i64.wrap ((k : Int) + 1) = ((k + 1 : Nat) : Int) := by rw [wrap_of (by omega) (by omega)]; omega
      cases hd : p.vars.drop k with
      | nil =>
        have hk : p.vars.length ≤ k := List.drop_eq_nil_iff.1 hd
        rw [hd] at k2
        rw [k2, show onceC [] ((p.vars.take k).map (·.name)) = true from rfl, Bool.true_and]
        clear k2 zb
        have hans : ∀ x, ansC x = .tup [.i x.1, .i x.2] := fun x => rfl
        generalize hS : seenM ((p.vars.take k).map (·.name)) = S
        generalize checkS p = c at c1 ⊢
        cases hu1 : usesB p.vars p.window 1 <;> cases hu2 : usesB p.vars p.pace 4
        all_goals
          rw [hu1] at c2
          rw [hu2] at c3
          (have ww1 := hans; have cc1 := fun z1 => c1 z1; have cc2 := fun z1 => c2 z1; have cc3 := fun z1 => c3 z1; refine wkO ?_; clear ww1 cc1 cc2 cc3; (repeat' first | exact True.intro | refine Lf.mk ?_ ?_); all_goals intro hP)
          all_goals clear c1 c2 c3 n1
          all_goals ((refine resX ?_; try exact True.intro))
          all_goals (refine congrArg (fun b => AV.pv (PV.sc (Value.bool b))) ?_; rw [Bool.eq_iff_iff]; simp <;> omega)
      | cons v r =>
        have hk : k < p.vars.length := by have := congrArg List.length hd; simp at this; omega
        rw [hd] at k2
        obtain ⟨hvk, _, hr, hm⟩ := drop_cons hd
        have hl' : (p.vars.map encV)[k]? = some (cV v) := by rw [List.getElem?_map, hvk]; rfl
        have n2 := fun H0 => nameC_run v.name (hzv v hm) H0
        have hsn : (p.vars.take (k + 1)).map (·.name) = (p.vars.take k).map (·.name) ++ [v.name] := by
          rw [List.take_add_one, hvk]; simp
        have hlk := lookS_seen ((p.vars.take k).map (·.name)) v.name (.bool false)
        cases hin : inB ((p.vars.take k).map (·.name)) v.name with
        | true =>
          rw [hin, if_pos rfl] at hlk
          have hf : onceC p.vars [] = false := by rw [k2, onceC, hin]; rfl
          rw [hf, Bool.false_and]
          (have ww1 := hl'; have ww2 := hlk; have ww3 := zb; have cc1 := fun z1 => n2 z1; refine wkO ?_; clear ww1 ww2 ww3 cc1; (repeat' first | exact True.intro | refine Lf.mk ?_ ?_); all_goals intro hP)
          (refine resX ?_; try exact True.intro)
        | false =>
          rw [hin, if_neg Bool.false_ne_true] at hlk
          have hput := putS_seen ((p.vars.take k).map (·.name)) v.name hin
          rw [← hsn] at hput
          rw [onceC, hin, ← hsn] at k2
          cases hn2 : nameB v.name with
          | false =>
            rw [hn2] at n2
            have hf : onceC p.vars [] = false := by rw [k2, varC, hn2]; simp
            rw [hf, Bool.false_and]
            (have ww1 := hl'; have ww2 := hlk; have ww3 := zb; have cc1 := fun z1 => n2 z1; refine wkO ?_; clear ww1 ww2 ww3 cc1; (repeat' first | exact True.intro | refine Lf.mk ?_ ?_); all_goals intro hP)
            (refine resX ?_; try exact True.intro)
          | true =>
            rw [hn2] at n2
            have hvc : varC v = decide (0 ≤ v.low ∧ v.low ≤ v.init ∧ v.init ≤ v.high ∧ v.high ≤ 1000000000) := by unfold varC; rw [hn2, Bool.true_and]
            (have ww1 := hl'; have ww2 := hlk; have ww3 := zb; have ww4 := hput; have ww5 := hw; have cc1 := fun z1 => n2 z1; refine wkO ?_; clear ww1 ww2 ww3 ww4 ww5 cc1; (repeat' first | exact True.intro | refine Lf.mk ?_ ?_); all_goals intro hP)
            all_goals first
              | (refine ⟨k + 1, by omega, ⟨by omega, k2.trans (by rw [hvc, decide_eq_true (by omega), hr, Bool.not_false, Bool.true_and, Bool.true_and])⟩, ?_⟩; refine Wk.keepE 2 1 rfl (by simp) ?_ ?_; (intro o ho; simp only [List.mem_cons, List.not_mem_nil, or_false] at ho; rcases ho with rfl | rfl; (simp [AObj.under, AV.under]); (trivial)); (simp only [List.map_cons, List.map_nil, AV.low, List.length_append, List.length_cons, List.length_nil, Nat.lt_irrefl, if_false, Fgt, Int.natCast_zero, Int.cast_ofNat_Int, Int.ofNat_eq_natCast, true_or, or_true, true_and, and_true, and_self, eq_self]; simp); done)
              | ((refine resX ?_; try exact True.intro); rw [k2, hvc, decide_eq_false (by omega)]; simp; done)
  · have hr : ctlB p = false := by
      unfold ctlB
      by_cases h : 1 ≤ p.vars.length
      · rw [decide_eq_false (show ¬ p.vars.length ≤ 12 by omega)]; simp
      · rw [decide_eq_false h]; simp
    rw [hr]
    clear hr
    cases hnm : nameB p.name
    all_goals
      rw [hnm] at n1
      (refine ARun.intro Tryz.func32 rfl Tryz.call32 Tryz.ntmps32 Tryz.results32 ?_; simp only [List.length_cons, List.length_nil, List.length_map, Nat.reduceAdd, Nat.reduceSub, List.replicate_succ, List.replicate_zero, List.cons_append, List.nil_append])
      (have cc1 := fun z1 => n1 z1; refine wkO ?_; clear cc1; (repeat' first | exact True.intro | refine Lf.mk ?_ ?_); all_goals intro hP)
      all_goals ((refine resX ?_; try exact True.intro))
end Go.Proofs.YtpfjlifneibhfaaGreat.Y
namespace Go.Proofs.YtpfjlifneibhfaaGreat.AL
variable [G : GTab]
theorem awpd_off {P : Program} {H0 : List AObj} {c : Code} {Q : AEx → List AV → List AObj → List ADef → Prop} {tm : List AV} {H : List AObj} {AD : List ADef}
    (h : AWP P H c (fun x tm H => Q x tm H AD) tm H) : AWPD P H0 c Q tm H AD := awpd_of h (fun _ _ _ h => h)
theorem Wk.dropE {H0 H L : List AObj} {tm tm' : List AV} (e : H = H0 ++ L) (d : Nat) (ht : Fgt (tm.map fun c => c.low H H0.length d) tm') : Wk H0 tm H tm' H0 := by
  subst e; exact Wk.drop0 d ht
end Go.Proofs.YtpfjlifneibhfaaGreat.AL
namespace Go.Proofs.YtpfjlifneibhfaaGreat.AL
/-! ### What is assigned -/
mutual
def asgS : St → Int → Bool
  | .mk kind var _ _ _ t e, k => (decide (kind = 1) && decide (var = k)) || (decide (kind = 2) && (asgL t k || asgL e k))
def asgL : List St → Int → Bool
  | [], _ => false
  | s :: ss, k => asgS s k || asgL ss k
end
theorem asgS_eq (s : St) (k : Int) : asgS s k = ((decide (s.kind = 1) && decide (s.var = k)) || (decide (s.kind = 2) && (asgL s.thn k || asgL s.els k))) := by cases s; rw [asgS]; rfl
theorem asgS_rest {vs : List Vr} {us : List Un} {i0 i1 i2 i3 : Int} (k : Nat) (s : St) : stS us s = 0 → asgS s k = false → ∀ st st', runStS vs i0 i1 i2 i3 s st = .ok st' → st'[k]? = st[k]? := by
  have hl : ∀ l : List St, (∀ x ∈ l, stS us x = 0 → asgS x k = false → ∀ st st', runStS vs i0 i1 i2 i3 x st = .ok st' → st'[k]? = st[k]?) → stSL us l = 0 → asgL l k = false → ∀ st st', runStL vs i0 i1 i2 i3 l st = .ok st' → st'[k]? = st[k]? := by
    intro l
    induction l with
    | nil => intro _ _ _ st st' h; rw [runStL_nil] at h; cases h; rfl
    | cons x xs ih =>
      intro h h2 ha st st' hr
      obtain ⟨hx, hxs⟩ := stSL_cons h2
      simp only [asgL, Bool.or_eq_false_iff] at ha
      rw [runStL_cons] at hr
      cases hq : runStS vs i0 i1 i2 i3 x st with
      | error y => rw [hq] at hr; cases hr
      | ok st1 =>
        rw [hq] at hr
        rw [ih (fun k hk => h k (by simp [hk])) hxs ha.2 st1 st' hr, h x (by simp) hx ha.1 st st1 hq]
  induction s using St.ind with
  | h s h1 h2 =>
    intro h ha st st' hr
    rw [asgS_eq] at ha
    rw [runStS_eq] at hr
    rcases stS_ok h with ⟨hk1, hv0, hv1, u, hu⟩ | ⟨hk2, hr1, hr2, ⟨u, hu⟩, ⟨u', hu'⟩, ht, he⟩
    · simp only [hk1, decide_true, Bool.true_and, Bool.or_eq_false_iff, decide_eq_false_iff_not] at ha
      cases hva : valE st i0 i1 i2 i3 s.a with
      | error y => rw [hva] at hr; cases hr
      | ok x =>
        rw [hva] at hr
        simp only at hr
        rw [if_pos hk1] at hr
        split at hr
        · cases hr
        · split at hr
          · cases hr
            rw [List.getElem?_set_ne (by omega)]
          · cases hr
    · simp only [hk2, decide_true, Bool.true_and, Bool.or_eq_false_iff] at ha
      cases hva : valE st i0 i1 i2 i3 s.a with
      | error y => rw [hva] at hr; cases hr
      | ok x =>
        rw [hva] at hr
        simp only at hr
        rw [if_neg (by omega)] at hr
        cases hvb : valE st i0 i1 i2 i3 s.b with
        | error y => rw [hvb] at hr; cases hr
        | ok y =>
          rw [hvb] at hr
          simp only at hr
          split at hr
          · exact hl _ h1 ht ha.2.1 st st' hr
          · exact hl _ h2 he ha.2.2 st st' hr
theorem asgL_rest {vs : List Vr} {us : List Un} {i0 i1 i2 i3 : Int} (k : Nat) : ∀ (l : List St), stSL us l = 0 → asgL l k = false → ∀ st st', runStL vs i0 i1 i2 i3 l st = .ok st' → st'[k]? = st[k]?
  | [], _, _, st, st', h => by rw [runStL_nil] at h; cases h; rfl
  | s :: l, h, ha, st, st', hr => by
    obtain ⟨hx, hxs⟩ := stSL_cons h
    simp only [asgL, Bool.or_eq_false_iff] at ha
    rw [runStL_cons] at hr
    cases hq : runStS vs i0 i1 i2 i3 s st with
    | error y => rw [hq] at hr; cases hr
    | ok st1 =>
      rw [hq] at hr
      rw [asgL_rest k l hxs ha.2 st1 st' hr, asgS_rest k s hx ha.1 st st1 hq]
/-! ### What is read -/
mutual
def useE : Ex → Int → Bool
  | .mk op n _ kids, k => useEs kids k || (decide (op = 3) && decide (n = k))
def useEs : List Ex → Int → Bool
  | [], _ => false
  | e :: es, k => useE e k || useEs es k
end
theorem useE_eq (e : Ex) (k : Int) : useE e k = (useEs e.kids k || (decide (e.op = 3) && decide (e.n = k))) := by cases e; rw [useE]; rfl
mutual
def redS : St → Int → Bool
  | .mk kind _ _ a b t e, k => useE a k || (decide (kind = 2) && (useE b k || (redL t k || redL e k)))
def redL : List St → Int → Bool
  | [], _ => false
  | s :: ss, k => redS s k || redL ss k
end
theorem redS_eq (s : St) (k : Int) : redS s k = (useE s.a k || (decide (s.kind = 2) && (useE s.b k || (redL s.thn k || redL s.els k)))) := by cases s; rw [redS]; rfl
section
variable {i0 i1 i2 i3 j0 j1 j2 j3 k : Int} (hj : ∀ n : Int, 0 ≤ n → n < 4 → n ≠ k → inS j0 j1 j2 j3 n.toNat = inS i0 i1 i2 i3 n.toNat)
include hj
theorem useE_same (st : List Int) (e : Ex) : useE e k = false → valE st j0 j1 j2 j3 e = valE st i0 i1 i2 i3 e := by
  have hl : ∀ l : List Ex, (∀ x ∈ l, useE x k = false → valE st j0 j1 j2 j3 x = valE st i0 i1 i2 i3 x) → useEs l k = false → valEs st j0 j1 j2 j3 l = valEs st i0 i1 i2 i3 l := by
    intro l
    induction l with
    | nil => intro _ _; simp [valEs]
    | cons x xs ih =>
      intro h hu
      simp only [useEs, Bool.or_eq_false_iff] at hu
      simp only [valEs, h x (by simp) hu.1, ih (fun k hk => h k (by simp [hk])) hu.2]
  induction e using Ex.ind with
  | h e ih =>
    intro hu
    rw [useE_eq, Bool.or_eq_false_iff] at hu
    rw [valE_eq, valE_eq, hl _ ih hu.1]
    cases valEs st i0 i1 i2 i3 e.kids with
    | error x => rfl
    | ok l =>
      simp only [nodeV, leafV]
      split
      · rfl
      · split
        · split
          · rfl
          · split
            · rfl
            · split
              · rename_i h3
                have : e.n ≠ k := by
                  intro hk
                  have := hu.2
                  simp [h3.1, hk] at this
                rw [hj e.n h3.2.1 h3.2.2 this]
              · rfl
        · rfl
theorem redS_same {vs : List Vr} {us : List Un} (s : St) : stS us s = 0 → redS s k = false → ∀ st, runStS vs j0 j1 j2 j3 s st = runStS vs i0 i1 i2 i3 s st := by
  have hl : ∀ l : List St, (∀ x ∈ l, stS us x = 0 → redS x k = false → ∀ st, runStS vs j0 j1 j2 j3 x st = runStS vs i0 i1 i2 i3 x st) → stSL us l = 0 → redL l k = false → ∀ st, runStL vs j0 j1 j2 j3 l st = runStL vs i0 i1 i2 i3 l st := by
    intro l
    induction l with
    | nil => intro _ _ _ st; rw [runStL_nil, runStL_nil]
    | cons x xs ih =>
      intro h h2 hr st
      obtain ⟨hx, hxs⟩ := stSL_cons h2
      simp only [redL, Bool.or_eq_false_iff] at hr
      rw [runStL_cons, runStL_cons, h x (by simp) hx hr.1]
      cases runStS vs i0 i1 i2 i3 x st with
      | error y => rfl
      | ok st' => exact ih (fun k hk => h k (by simp [hk])) hxs hr.2 st'
  induction s using St.ind with
  | h s h1 h2 =>
    intro h hr st
    rw [redS_eq, Bool.or_eq_false_iff] at hr
    rw [runStS_eq, runStS_eq, useE_same hj st s.a hr.1]
    rcases stS_ok h with ⟨hk1, hv0, hv1, u, hu⟩ | ⟨hk2, hr1, hr2, ⟨u, hu⟩, ⟨u', hu'⟩, ht, he⟩
    · simp only [hk1, if_true]
    · have hb := hr.2
      simp only [hk2, decide_true, Bool.true_and, Bool.or_eq_false_iff] at hb
      rw [useE_same hj st s.b hb.1]
      simp only [hl _ h1 ht hb.2.1, hl _ h2 he hb.2.2]
theorem redL_same {vs : List Vr} {us : List Un} : ∀ (l : List St), stSL us l = 0 → redL l k = false → ∀ st, runStL vs j0 j1 j2 j3 l st = runStL vs i0 i1 i2 i3 l st
  | [], _, _, st => by rw [runStL_nil, runStL_nil]
  | s :: l, h, hr, st => by
    obtain ⟨hx, hxs⟩ := stSL_cons h
    simp only [redL, Bool.or_eq_false_iff] at hr
    rw [runStL_cons, runStL_cons, redS_same hj s hx hr.1]
    cases runStS vs i0 i1 i2 i3 s st with
    | error y => rfl
    | ok st' => exact redL_same l hxs hr.2 st'
end
end Go.Proofs.YtpfjlifneibhfaaGreat.AL
namespace Go.Proofs.YtpfjlifneibhfaaGreat.Y
open Go.Proofs.YtpfjlifneibhfaaGreat.AL Go.Proofs Go
attribute [local irreducible] AWP AWL AWG AWR AWE AWX AWO AWSeq AWSG AWSR AWSO AWSE AWSF GoodP OGW OGR OGE OGX PGW PGR PGE Wk AWLoop AWPD AWLD
theorem MCall_run (x : Cal) (H0 : List AObj) :
    ARun Tryz.prog 40 [agL x] H0 (.ret (.b (callOk x)) H0) := by
  (refine ARun.intro Tryz.func40 rfl Tryz.call40 Tryz.ntmps40 Tryz.results40 ?_; simp only [List.length_cons, List.length_nil, List.length_map, Nat.reduceAdd, Nat.reduceSub, List.replicate_succ, List.replicate_zero, List.cons_append, List.nil_append])
  (refine wkO ?_; (repeat' first | exact True.intro | refine Lf.mk ?_ ?_); all_goals intro hP)
  refine awp_loop 5 ?_
  (refine wkO ?_; (repeat' first | exact True.intro | refine Lf.mk ?_ ?_); all_goals intro hP)
  all_goals ((try rw [show callOk x = false from decide_neg' (by omega)]); (try rw [show callOk x = true from decide_pos' (by omega)]); (refine resX ?_; try exact True.intro); try (rw [show callOk x = decide (x.ev < 5) from decide_eq_decide.2 ⟨fun h => by omega, fun h => by omega⟩]))
theorem nR_toPVs (H : List AObj) (m d : Nat) (l : List Int) : AV.toPVs H m d (nR l) = some (rI l) := by unfold nR pvRows; rw [toPVs_pvs]
/-- The first state of a program. -/
def startR (p : Prg) : Except Int (List Int) := if validB p then .ok (p.vars.map (·.init)) else .error 1
theorem MStart_run (p : Prg) (hl : p.vars.length ≤ 1000000) (hok : okP p) (hz : p.name.size ≤ 2000000) (hzv : ∀ v ∈ p.vars, v.name.size ≤ 2000000) (H0 : List AObj) :
    ARun Tryz.prog 12 [.ag (cP p)] H0 (.ret (.tup [.rs 1 (rI (runL (startR p))), .i (runE (startR p))]) H0) := by
  have cW := fun H => CValid_run p hl hok hz hzv H
  unfold startR
  cases hval : validB p with
  | false =>
    rw [hval] at cW
    simp only [Bool.false_eq_true, if_false, runL, runE]
    (refine ARun.intro Tryz.func12 rfl Tryz.call12 Tryz.ntmps12 Tryz.results12 ?_; simp only [List.length_cons, List.length_nil, List.length_map, Nat.reduceAdd, Nat.reduceSub, List.replicate_succ, List.replicate_zero, List.cons_append, List.nil_append])
    (have cc1 := fun z1 => cW z1; refine wk ?_; clear cc1; (repeat' first | exact True.intro | refine Lf.mk ?_ ?_); all_goals intro hP)
    (refine resC ?_; (repeat' (first | exact True.intro | refine Lf.mk ?_ ?_)))
    (repeat' (first | exact trivial | exact Cv.refl _ | exact Cv.nil (Nat.succ_pos _) | exact PCv.refl _ | exact PCv.nil (Nat.succ_pos _) | refine And.intro ?_ ?_ | refine Cv.agg ?_ | refine Cv.tup ?_ | refine Cv.pv (PCv.rs ?_) | refine PCv.rs ?_))
  | true =>
    rw [hval] at cW
    simp only [if_true, runL, runE]
    (refine ARun.intro Tryz.func12 rfl Tryz.call12 Tryz.ntmps12 Tryz.results12 ?_; simp only [List.length_cons, List.length_nil, List.length_map, Nat.reduceAdd, Nat.reduceSub, List.replicate_succ, List.replicate_zero, List.cons_append, List.nil_append])
    (have cc1 := fun z1 => cW z1; refine wk ?_; clear cc1; (repeat' first | exact True.intro | refine Lf.mk ?_ ?_); all_goals intro hP)
    refine awp_loop_ind (σ := Nat) (fun k => p.vars.length - k) (fun k => k ≤ p.vars.length)
      (fun k => (.any :: .p H0.length 0 :: .any :: .any :: .os (H0.length + 1) 0 k k :: .any :: .any :: .any :: .any :: .any :: .any :: .rs 5 (p.vars.map encV) :: .i p.vars.length :: .i k :: .any :: .any :: .any :: .any :: .any :: .any :: .any :: .any :: .any :: .any :: []))
      (fun k => H0 ++ [.cells 26 ((cP p).map AV.pv), .arr 3 1 (nR ((p.vars.take k).map (·.init)))]) 0 (Nat.zero_le _) (Wk.ghostL 4 1 3 (sz := 1) (by omega) rfl rfl rfl (by (refine fgX ?_; try exact True.intro))) ?_
    rintro k k1
    have hw : IntKind.i64.wrap ((k : Int) + 1) = ((k + 1 : Nat) : Int) := by rw [wrap_of (by omega) (by omega)]; omega
    have ln : (nR ((p.vars.take k).map (·.init))).length = k := by rw [nR_len, List.length_map, List.length_take]; omega
    cases hr : p.vars.drop k with
    | nil =>
      have hlt := drop_nil hr
      have hk : p.vars.length ≤ k := List.drop_eq_nil_iff.1 hr
      rw [List.take_of_length_le hk] at ln ⊢
      (have ww1 := hlt; refine wk ?_; clear ww1; (repeat' first | exact True.intro | refine Lf.mk ?_ ?_); all_goals intro hP)
      (refine resC ?_; (repeat' (first | exact True.intro | refine Lf.mk ?_ ?_)))
      rw [if_pos ln, List.take_of_length_le (by omega), nR_toPVs]
      exact Cv.refl _
    | cons v rest =>
      obtain ⟨hv, hlt, hd, hm⟩ := drop_cons hr
      have hv' : (p.vars.map encV)[k]? = some (cV v) := by rw [List.getElem?_map, hv]; rfl
      have p1 := nR_one ((p.vars.take k).map (·.init)) v.init
      (have ww1 := hlt; have ww2 := hv'; have ww3 := hw; have ww4 := p1; have ww5 := ln; refine wkO ?_; clear ww1 ww2 ww3 ww4 ww5; (repeat' first | exact True.intro | refine Lf.mk ?_ ?_); all_goals intro hP)
      refine ⟨k + 1, by omega, by omega, ?_⟩
      rw [List.take_add_one, hv, List.map_append]
      refine Wk.keepE 2 1 rfl (by simp) (by intro o ho; simp only [List.mem_cons, List.not_mem_nil, or_false] at ho; rcases ho with rfl | rfl; (simp [AObj.under, AV.under]); exact under_pvRows _) ?_
      simp only [List.map_cons, List.map_nil, AV.low, List.length_append, List.length_cons, List.length_nil, Nat.lt_irrefl, if_false, Fgt, true_or, or_true, and_true, true_and, Nat.lt_add_right_iff_pos, Nat.add_lt_add_iff_left, Nat.lt_add_one, Nat.reduceLT, if_true, eq_self, Nat.zero_add]
/-- What Eval comes to. -/
def evalR (st : List Int) (i0 i1 i2 i3 : Int) (e : Ex) : Except Int Int := if 60 < size e 60 then .error 2 else valE st i0 i1 i2 i3 e
theorem MEval_run (st : List Int) (hst : st.length ≤ 1000000) (i0 i1 i2 i3 : Int) (e : Ex) (H0 : List AObj) :
    ARun Tryz.prog 14 [.rs 1 (rI st), .agg [.i i0, .i i1, .i i2, .i i3], .ag (cE e)] H0 (.ret (.tup [.i (vN (evalR st i0 i1 i2 i3 e)), .i (eN (evalR st i0 i1 i2 i3 e))]) H0) := by
  have cS := fun H => msize_run e 60 H (by omega) (by omega)
  unfold evalR
  by_cases hs : 60 < size e 60
  · rw [if_pos hs]
    (refine ARun.introD Tryz.func14 rfl Tryz.call14 Tryz.ntmps14 Tryz.results14 ?_; simp only [List.length_cons, List.length_nil, List.length_map, Nat.reduceAdd, Nat.reduceSub, List.replicate_succ, List.replicate_zero, List.cons_append, List.nil_append])
    repeat' (first | refine awpd_seq ?_ | refine awp_block ?_ | (refine awpd_defer (id := 3) ?_; simp only [AWLD, go_sem, Nat.reduceAdd, Nat.reduceSub, Nat.reduceMul, Nat.reduceLeDiff, Nat.reduceLT, Nat.reduceEqDiff, Int.reduceToNat, Int.reduceAdd, Int.reduceMul, Int.reduceSub, Int.reduceLT, Int.reduceLE, Int.reduceEq, Int.reduceNeg, Int.reduceBEq, Int.reduceBNe, ↓reduceIte, reduceCtorEq, hs]) | ((first | refine awpd_region_k fun Kn Kp hn hp => ?_ | show AWPD _ _ (Code.region 4 _ true) _ _ _ _; refine awpd_drawn_k (id := 4) [2, 4] [] [.win [0, 1], .win [0, 1], .eff 0, .win [1], .eff 1, .win [2]] 2 rfl (by as_aux_lemma => kernel_rfl) fun Kn Kp hn hp => ?_ | refine oge_intro (by assumption) ?_ | (show AWE _ _ _ _ _ _ _ _ _; first | refine awe_intro (cS _) ?_) | (show AWSF _ _ _ _ _ _ _ _ _ _ _; first | refine awsf_intro (cS _) (fun hrun => ?_)) | (show OGE _ _ _ _ _ _ _; first | refine oge_intro (cS _) ?_) | (show AWSE _ _ _ _ _ _ _ _ _ _ _; first | refine awse_intro (cS _) (fun hrun => ?_)) | (show PGE _ _ _ _ _; first | refine pge_intro (cS _) (fun tm' => ?_))) <;> (simp only [go_sem, Nat.reduceAdd, Nat.reduceSub, Nat.reduceMul, Nat.reduceLeDiff, Nat.reduceLT, Nat.reduceEqDiff, Int.reduceToNat, Int.reduceAdd, Int.reduceMul, Int.reduceSub, Int.reduceLT, Int.reduceLE, Int.reduceEq, Int.reduceNeg, Int.reduceBEq, Int.reduceBNe, ↓reduceIte, reduceCtorEq, hs] <;> try simp (disch := omega) only [wrap_of])) | (refine hn _ _ ?_; clear hn hp Kn Kp) | (refine hp _ _ _ ?_; clear hn hp Kn Kp) | (refine awpd_cond rfl (fun hb => ?_) (fun hb => ?_) <;> (try simp only [decide_eq_true_eq, decide_eq_false_iff_not, Bool.not_eq_true', Bool.not_eq_false', Bool.true_eq_false, Bool.false_eq_true, beq_iff_eq, bne_iff_ne, bne_eq_false_iff_eq, beq_eq_false_iff_ne, gt_iff_lt, ge_iff_le, Int.reduceEq, Int.reduceNe, Int.reduceLT, Int.reduceLE, ne_eq, not_true_eq_false, not_false_eq_true] at hb)) | ((first | refine awg_split (fun hb => ?_) (fun hb => ?_) | refine awsg_split (fun hb => ?_) (fun hb => ?_)) <;> have hb0 := hb <;> (try simp only [decide_eq_true_eq, decide_eq_false_iff_not, Bool.not_eq_true', Bool.not_eq_false', Bool.true_eq_false, Bool.false_eq_true, beq_iff_eq, bne_iff_ne, bne_eq_false_iff_eq, beq_eq_false_iff_ne, gt_iff_lt, ge_iff_le, Int.reduceEq, Int.reduceNe, Int.reduceLT, Int.reduceLE, ne_eq, not_true_eq_false, not_false_eq_true] at hb0) <;> (try simp only [beq_true, beq_false, Bool.not_eq_true', Bool.not_eq_false'] at hb) <;> (simp only [go_sem, Nat.reduceAdd, Nat.reduceSub, Nat.reduceMul, Nat.reduceLeDiff, Nat.reduceLT, Nat.reduceEqDiff, Int.reduceToNat, Int.reduceAdd, Int.reduceMul, Int.reduceSub, Int.reduceLT, Int.reduceLE, Int.reduceEq, Int.reduceNeg, Int.reduceBEq, Int.reduceBNe, ↓reduceIte, reduceCtorEq, hs, hb, hb0] <;> try simp (disch := omega) only [wrap_of])) | (refine And.intro ?_ ?_) | refine awpd_ret ?_ | refine awpd_skip ?_ | refine awloop_step ?_ | fail)
    (refine resX ?_; try exact True.intro)
  · rw [if_neg hs]
    have hn : nodes e ≤ 60 := by have := (size_cap e 60 (by omega)).1 (by omega); omega
    have cO : ∀ (a b c d : AObj), ARun Tryz.prog 37 [] (H0 ++ [a, b, c, d]) (.ret (.mp (H0.length + 4)) (H0 ++ [a, b, c, d, .imap opsT])) := fun a b c d => by
      have := operations_run (H0 ++ [a, b, c, d])
      simpa using this
    have cF := fun (a b c d : AObj) => value_rs st i0 i1 i2 i3 hst e (by omega) (H0.length + 5) (H0.length + 4) (.pv (.sc (.slice none 0 0)))
      (H0 ++ [a, b, c, d, .imap opsT, .cells 68 [.pv (.sc (.slice none 0 0)), .rs 1 (rI st), .i i0, .i i1, .i i2, .i i3, .mp (H0.length + 4)]]) ⟨getOk _ _ _, getOk _ _ _⟩
    cases hv : valE st i0 i1 i2 i3 e with
    | ok v =>
      simp only [hv, outV] at cF
      simp only [vN, eN]
      (refine ARun.introD Tryz.func14 rfl Tryz.call14 Tryz.ntmps14 Tryz.results14 ?_; simp only [List.length_cons, List.length_nil, List.length_map, Nat.reduceAdd, Nat.reduceSub, List.replicate_succ, List.replicate_zero, List.cons_append, List.nil_append])
      repeat' (first | refine awpd_seq ?_ | refine awp_block ?_ | (refine awpd_defer (id := 3) ?_; simp only [AWLD, go_sem, Nat.reduceAdd, Nat.reduceSub, Nat.reduceMul, Nat.reduceLeDiff, Nat.reduceLT, Nat.reduceEqDiff, Int.reduceToNat, Int.reduceAdd, Int.reduceMul, Int.reduceSub, Int.reduceLT, Int.reduceLE, Int.reduceEq, Int.reduceNeg, Int.reduceBEq, Int.reduceBNe, ↓reduceIte, reduceCtorEq, hs]) | ((first | refine awpd_region_k fun Kn Kp hn hp => ?_ | show AWPD _ _ (Code.region 4 _ true) _ _ _ _; refine awpd_drawn_k (id := 4) [2, 4] [] [.win [0, 1], .win [0, 1], .eff 0, .win [1], .eff 1, .win [2]] 2 rfl (by as_aux_lemma => kernel_rfl) fun Kn Kp hn hp => ?_ | refine oge_intro (by assumption) ?_ | (show AWE _ _ _ _ _ _ _ _ _; first | refine awe_intro (cS _) ?_ | refine awe_intro (cO _ _ _ _) ?_ | refine awe_intro (cF _ _ _ _) ?_) | (show AWSF _ _ _ _ _ _ _ _ _ _ _; first | refine awsf_intro (cS _) (fun hrun => ?_) | refine awsf_intro (cO _ _ _ _) (fun hrun => ?_) | refine awsf_intro (cF _ _ _ _) (fun hrun => ?_)) | (show OGE _ _ _ _ _ _ _; first | refine oge_intro (cS _) ?_ | refine oge_intro (cO _ _ _ _) ?_ | refine oge_intro (cF _ _ _ _) ?_) | (show AWSE _ _ _ _ _ _ _ _ _ _ _; first | refine awse_intro (cS _) (fun hrun => ?_) | refine awse_intro (cO _ _ _ _) (fun hrun => ?_) | refine awse_intro (cF _ _ _ _) (fun hrun => ?_)) | (show PGE _ _ _ _ _; first | refine pge_intro (cS _) (fun tm' => ?_) | refine pge_intro (cO _ _ _ _) (fun tm' => ?_) | refine pge_intro (cF _ _ _ _) (fun tm' => ?_))) <;> (simp only [go_sem, Nat.reduceAdd, Nat.reduceSub, Nat.reduceMul, Nat.reduceLeDiff, Nat.reduceLT, Nat.reduceEqDiff, Int.reduceToNat, Int.reduceAdd, Int.reduceMul, Int.reduceSub, Int.reduceLT, Int.reduceLE, Int.reduceEq, Int.reduceNeg, Int.reduceBEq, Int.reduceBNe, ↓reduceIte, reduceCtorEq, hs] <;> try simp (disch := omega) only [wrap_of])) | (refine hn _ _ ?_; clear hn hp Kn Kp) | (refine hp _ _ _ ?_; clear hn hp Kn Kp) | (refine awpd_cond rfl (fun hb => ?_) (fun hb => ?_) <;> (try simp only [decide_eq_true_eq, decide_eq_false_iff_not, Bool.not_eq_true', Bool.not_eq_false', Bool.true_eq_false, Bool.false_eq_true, beq_iff_eq, bne_iff_ne, bne_eq_false_iff_eq, beq_eq_false_iff_ne, gt_iff_lt, ge_iff_le, Int.reduceEq, Int.reduceNe, Int.reduceLT, Int.reduceLE, ne_eq, not_true_eq_false, not_false_eq_true] at hb)) | ((first | refine awg_split (fun hb => ?_) (fun hb => ?_) | refine awsg_split (fun hb => ?_) (fun hb => ?_)) <;> have hb0 := hb <;> (try simp only [decide_eq_true_eq, decide_eq_false_iff_not, Bool.not_eq_true', Bool.not_eq_false', Bool.true_eq_false, Bool.false_eq_true, beq_iff_eq, bne_iff_ne, bne_eq_false_iff_eq, beq_eq_false_iff_ne, gt_iff_lt, ge_iff_le, Int.reduceEq, Int.reduceNe, Int.reduceLT, Int.reduceLE, ne_eq, not_true_eq_false, not_false_eq_true] at hb0) <;> (try simp only [beq_true, beq_false, Bool.not_eq_true', Bool.not_eq_false'] at hb) <;> (simp only [go_sem, Nat.reduceAdd, Nat.reduceSub, Nat.reduceMul, Nat.reduceLeDiff, Nat.reduceLT, Nat.reduceEqDiff, Int.reduceToNat, Int.reduceAdd, Int.reduceMul, Int.reduceSub, Int.reduceLT, Int.reduceLE, Int.reduceEq, Int.reduceNeg, Int.reduceBEq, Int.reduceBNe, ↓reduceIte, reduceCtorEq, hs, hb, hb0] <;> try simp (disch := omega) only [wrap_of])) | (refine And.intro ?_ ?_) | refine awpd_ret ?_ | refine awpd_skip ?_ | refine awloop_step ?_ | fail)
      refine ⟨_, evalD_none _ _ _, ?_⟩
      (refine resX ?_; try exact True.intro)
    | error x =>
      simp only [hv, outV] at cF
      simp only [vN, eN]
      (refine ARun.introD Tryz.func14 rfl Tryz.call14 Tryz.ntmps14 Tryz.results14 ?_; simp only [List.length_cons, List.length_nil, List.length_map, Nat.reduceAdd, Nat.reduceSub, List.replicate_succ, List.replicate_zero, List.cons_append, List.nil_append])
      repeat' (first | refine awpd_seq ?_ | refine awp_block ?_ | (refine awpd_defer (id := 3) ?_; simp only [AWLD, go_sem, Nat.reduceAdd, Nat.reduceSub, Nat.reduceMul, Nat.reduceLeDiff, Nat.reduceLT, Nat.reduceEqDiff, Int.reduceToNat, Int.reduceAdd, Int.reduceMul, Int.reduceSub, Int.reduceLT, Int.reduceLE, Int.reduceEq, Int.reduceNeg, Int.reduceBEq, Int.reduceBNe, ↓reduceIte, reduceCtorEq, hs]) | ((first | refine awpd_region_k fun Kn Kp hn hp => ?_ | show AWPD _ _ (Code.region 4 _ true) _ _ _ _; refine awpd_drawn_k (id := 4) [2, 4] [] [.win [0, 1], .win [0, 1], .eff 0, .win [1], .eff 1, .win [2]] 2 rfl (by as_aux_lemma => kernel_rfl) fun Kn Kp hn hp => ?_ | refine oge_intro (by assumption) ?_ | (show AWE _ _ _ _ _ _ _ _ _; first | refine awe_intro (cS _) ?_ | refine awe_intro (cO _ _ _ _) ?_ | refine awe_intro (cF _ _ _ _) ?_) | (show AWSF _ _ _ _ _ _ _ _ _ _ _; first | refine awsf_intro (cS _) (fun hrun => ?_) | refine awsf_intro (cO _ _ _ _) (fun hrun => ?_) | refine awsf_intro (cF _ _ _ _) (fun hrun => ?_)) | (show OGE _ _ _ _ _ _ _; first | refine oge_intro (cS _) ?_ | refine oge_intro (cO _ _ _ _) ?_ | refine oge_intro (cF _ _ _ _) ?_) | (show AWSE _ _ _ _ _ _ _ _ _ _ _; first | refine awse_intro (cS _) (fun hrun => ?_) | refine awse_intro (cO _ _ _ _) (fun hrun => ?_) | refine awse_intro (cF _ _ _ _) (fun hrun => ?_)) | (show PGE _ _ _ _ _; first | refine pge_intro (cS _) (fun tm' => ?_) | refine pge_intro (cO _ _ _ _) (fun tm' => ?_) | refine pge_intro (cF _ _ _ _) (fun tm' => ?_))) <;> (simp only [go_sem, Nat.reduceAdd, Nat.reduceSub, Nat.reduceMul, Nat.reduceLeDiff, Nat.reduceLT, Nat.reduceEqDiff, Int.reduceToNat, Int.reduceAdd, Int.reduceMul, Int.reduceSub, Int.reduceLT, Int.reduceLE, Int.reduceEq, Int.reduceNeg, Int.reduceBEq, Int.reduceBNe, ↓reduceIte, reduceCtorEq, hs] <;> try simp (disch := omega) only [wrap_of])) | (refine hn _ _ ?_; clear hn hp Kn Kp) | (refine hp _ _ _ ?_; clear hn hp Kn Kp) | (refine awpd_cond rfl (fun hb => ?_) (fun hb => ?_) <;> (try simp only [decide_eq_true_eq, decide_eq_false_iff_not, Bool.not_eq_true', Bool.not_eq_false', Bool.true_eq_false, Bool.false_eq_true, beq_iff_eq, bne_iff_ne, bne_eq_false_iff_eq, beq_eq_false_iff_ne, gt_iff_lt, ge_iff_le, Int.reduceEq, Int.reduceNe, Int.reduceLT, Int.reduceLE, ne_eq, not_true_eq_false, not_false_eq_true] at hb)) | ((first | refine awg_split (fun hb => ?_) (fun hb => ?_) | refine awsg_split (fun hb => ?_) (fun hb => ?_)) <;> have hb0 := hb <;> (try simp only [decide_eq_true_eq, decide_eq_false_iff_not, Bool.not_eq_true', Bool.not_eq_false', Bool.true_eq_false, Bool.false_eq_true, beq_iff_eq, bne_iff_ne, bne_eq_false_iff_eq, beq_eq_false_iff_ne, gt_iff_lt, ge_iff_le, Int.reduceEq, Int.reduceNe, Int.reduceLT, Int.reduceLE, ne_eq, not_true_eq_false, not_false_eq_true] at hb0) <;> (try simp only [beq_true, beq_false, Bool.not_eq_true', Bool.not_eq_false'] at hb) <;> (simp only [go_sem, Nat.reduceAdd, Nat.reduceSub, Nat.reduceMul, Nat.reduceLeDiff, Nat.reduceLT, Nat.reduceEqDiff, Int.reduceToNat, Int.reduceAdd, Int.reduceMul, Int.reduceSub, Int.reduceLT, Int.reduceLE, Int.reduceEq, Int.reduceNeg, Int.reduceBEq, Int.reduceBNe, ↓reduceIte, reduceCtorEq, hs, hb, hb0] <;> try simp (disch := omega) only [wrap_of])) | (refine And.intro ?_ ?_) | refine awpd_ret ?_ | refine awpd_skip ?_ | refine awloop_step ?_ | fail)
      refine ⟨_, evalD_pan _ _ (by omega) _ x 0 0 (by rw [getOk]; rfl) (by rw [getOk]; rfl), ?_⟩
      (refine resX ?_; try exact True.intro)
theorem dr16_6_X30k : Drawn Tryz.prog 6 (regOps 6 ((Tryz.f16.body).getD .skip)) [] [] [.win [0], .win [0], .win [0], .win [0], .win [0], .win [0], .win [0], .win [0], .win [0], .win [0], .win [0], .win [0], .win [0], .win [0], .win [0], .win [0]] 0 [] := ⟨rfl, by as_aux_lemma => kernel_rfl⟩
theorem dr16_10_X30k : Drawn Tryz.prog 10 (regOps 10 ((Tryz.f16.body).getD .skip)) [2, 4, 7, 9] [] [.win [0, 1, 2, 3], .win [0, 1, 2, 3], .eff 0, .win [0, 1], .eff 1, .win [0, 1, 2, 3], .win [0, 1, 2, 3], .eff 2, .win [3], .eff 3, .win [4]] 4 [] := ⟨rfl, by as_aux_lemma => kernel_rfl⟩
theorem runD_none (a b : Nat) (H : List AObj) : ARunD Tryz.prog 41 [.p a 0, .p b 0] H none H := by
  refine ARunD.intro Tryz.func41 rfl Tryz.call41 Tryz.ntmps41 Tryz.results41 ?_
  simp only [List.length_cons, List.length_nil, Nat.reduceAdd, Nat.reduceSub, List.replicate_succ, List.replicate_zero, List.cons_append, List.nil_append, UM.of]
  refine awps_seq ?_
  refine awps_region ?_
  simp only [AWLS, isRecover, if_true, Bool.false_eq_true, if_false, aput, aStep, aev, List.set_cons_zero, List.set_cons_succ, List.getElem?_cons_zero, List.getElem?_cons_succ, Option.getD_some, AV.ofV, aEqStep, aEq, AV.sc]
  refine awps_seq ?_
  refine awps_region ?_
  simp only [AWLS, isRecover, if_true, Bool.false_eq_true, if_false, aput, aStep, aev, List.set_cons_zero, List.set_cons_succ, List.getElem?_cons_zero, List.getElem?_cons_succ, Option.getD_some, AV.ofV, aEqStep, aEq, AV.sc]
  refine ⟨rfl, .bool false, fun w => ?_, ?_⟩
  · simp [execOp, aRho, aev, AV.conc, eqGuard, binOp, Op.equal, Op.maxDepth, AV.ofV, AV.sc, run_equalIn_nil_nil w 9999 20 undAnyM]
  · refine awps_cond rfl (fun hb => by cases hb) (fun _ => ?_)
    refine awps_skip ?_
    refine ⟨⟨_, rfl⟩, ⟨H.length, ⟨Nat.le_refl _, Nat.le_refl _, fun id o hid ho => .inl ho⟩, by simp⟩, trivial⟩
theorem runD_pan (a b : Nat) (hab : a ≠ b) (H : List AObj) (e : Int) (x : AV) (y : Int) (ha : H[a]? = some (.cells 27 [x])) (hb : H[b]? = some (.cells 37 [.i y])) :
    ARunD Tryz.prog 41 [.p a 0, .p b 0] H (some (xF e)) ((H.set a (.cells 27 [.pv (.sc (.slice none 0 0))])).set b (.cells 37 [.i e])) := by
  refine ARunD.intro Tryz.func41 rfl Tryz.call41 Tryz.ntmps41 Tryz.results41 ?_
  simp only [List.length_cons, List.length_nil, Nat.reduceAdd, Nat.reduceSub, List.replicate_succ, List.replicate_zero, List.cons_append, List.nil_append, UM.of]
  refine awps_seq ?_
  refine awps_region ?_
  simp only [AWLS, isRecover, if_true, Bool.false_eq_true, if_false, aput, aStep, aev, List.set_cons_zero, List.set_cons_succ, List.getElem?_cons_zero, List.getElem?_cons_succ, Option.getD_some, AV.ofV, aEqStep, aEq, AV.sc]
  refine awps_seq ?_
  refine awps_region ?_
  simp only [AWLS, isRecover, if_true, Bool.false_eq_true, if_false, aput, aStep, aev, List.set_cons_zero, List.set_cons_succ, List.getElem?_cons_zero, List.getElem?_cons_succ, Option.getD_some, AV.ofV, aEqStep, aEq, AV.sc]
  refine ⟨rfl, .bool true, fun w => ?_, ?_⟩
  · simp [execOp, aRho, aev, AV.conc, eqGuard, binOp, Op.equal, Op.maxDepth, AV.ofV, AV.sc, run_equalIn_held_nil w 9999 20 81 _ undAnyM]
  · refine awps_cond rfl (fun _ => ?_) (fun hb => by cases hb)
    refine awps_region ?_
    simp only [AWLS, isRecover, if_true, Bool.false_eq_true, if_false, aput, aStep, aev, List.set_cons_zero, List.set_cons_succ, List.getElem?_cons_zero, List.getElem?_cons_succ, Option.getD_some, AV.ofV, aEqStep, aEq, AV.sc]
    refine ⟨.i e, H, caughtM_run e H, ?_⟩
    have hb2 : (H.set a (.cells 27 [.pv (.sc (.slice none 0 0))]))[b]? = some (.cells 37 [.i y]) := by rw [List.getElem?_set_ne hab]; exact hb
    simp only [go_sem, Nat.reduceAdd, Nat.reduceSub, Nat.reduceMul, Nat.reduceLeDiff, Nat.reduceLT, Nat.reduceEqDiff, Int.reduceToNat, Int.reduceAdd, Int.reduceMul, Int.reduceSub, Int.reduceLT, Int.reduceLE, Int.reduceEq, Int.reduceNeg, Int.reduceBEq, Int.reduceBNe, ↓reduceIte, reduceCtorEq, ha, hb2]
    refine ⟨⟨_, rfl⟩, ⟨H.length, ⟨Nat.le_refl _, by simp, fun id o hid ho => ?_⟩, by rw [List.take_of_length_le (by simp)]⟩, trivial⟩
    by_cases h1 : b = id
    · subst h1
      rw [List.getElem?_set_self (by rw [List.length_set]; exact (List.getElem?_eq_some_iff.1 hb).1)] at ho
      simp only [Option.some.injEq] at ho
      subst ho
      exact .inr (by simp [AObj.under, AV.under])
    · rw [List.getElem?_set_ne h1] at ho
      by_cases h2 : a = id
      · subst h2
        rw [List.getElem?_set_self (List.getElem?_eq_some_iff.1 ha).1] at ho
        simp only [Option.some.injEq] at ho
        subst ho
        exact .inr (by simp [AObj.under, AV.under])
      · rw [List.getElem?_set_ne h2] at ho
        exact .inl ho
/-- What Run comes to. -/
def runM (p : Prg) (st : List Int) (x : Cal) : Except Int (List Int) := if callOk x = true ∧ stIn p.vars st = true ∧ validB p = true then runStL p.vars x.i0 x.i1 x.i2 x.i3 (handP p x.ev.toNat) st else .error 1
theorem MRun_bad (p : Prg) (hl : p.vars.length ≤ 1000000) (hok : okP p) (hz : p.name.size ≤ 2000000) (hzv : ∀ v ∈ p.vars, v.name.size ≤ 2000000) (st : List Int) (x : Cal)
    (hb : ¬ (callOk x = true ∧ st.length = p.vars.length ∧ validB p = true)) (H0 : List AObj) :
    ARun Tryz.prog 16 [.ag (cP p), .rs 1 (rI st), agL x] H0 (.ret (.tup [.rs 1 [], .i 1]) H0) := by
  have cW := fun H => CValid_run p hl hok hz hzv H
  have cC := fun H => MCall_run x H
  have ls : (rI st).length = st.length := List.length_map _
  cases hc : callOk x with
  | false =>
    rw [hc] at cC
    (refine ARun.introD Tryz.func16 rfl Tryz.call16 Tryz.ntmps16 Tryz.results16 ?_; simp only [List.length_cons, List.length_nil, List.length_map, Nat.reduceAdd, Nat.reduceSub, List.replicate_succ, List.replicate_zero, List.cons_append, List.nil_append])
    repeat' (first | refine awpd_seq ?_ | refine awp_block ?_ | (refine awpd_defer (id := 9) ?_; simp only [AWLD, go_sem, Nat.reduceAdd, Nat.reduceSub, Nat.reduceMul, Nat.reduceLeDiff, Nat.reduceLT, Nat.reduceEqDiff, Int.reduceToNat, Int.reduceAdd, Int.reduceMul, Int.reduceSub, Int.reduceLT, Int.reduceLE, Int.reduceEq, Int.reduceNeg, Int.reduceBEq, Int.reduceBNe, ↓reduceIte, reduceCtorEq]) | ((first | refine awpd_region_k fun Kn Kp hn hp => ?_ | show AWPD _ _ (Code.region 6 _ true) _ _ _ _; refine awpd_drawn_k (id := 6) [] [] [.win [0], .win [0], .win [0], .win [0], .win [0], .win [0], .win [0], .win [0], .win [0], .win [0], .win [0], .win [0], .win [0], .win [0], .win [0], .win [0]] 0 rfl (by as_aux_lemma => kernel_rfl) fun Kn Kp hn hp => ?_ | show AWPD _ _ (Code.region 10 _ true) _ _ _ _; refine awpd_drawn_k (id := 10) [2, 4, 7, 9] [] [.win [0, 1, 2, 3], .win [0, 1, 2, 3], .eff 0, .win [0, 1], .eff 1, .win [0, 1, 2, 3], .win [0, 1, 2, 3], .eff 2, .win [3], .eff 3, .win [4]] 4 rfl (by as_aux_lemma => kernel_rfl) fun Kn Kp hn hp => ?_ | refine oge_intro (by assumption) ?_ | (show AWE _ _ _ _ _ _ _ _ _; first | refine awe_intro (cC _) ?_) | (show AWSF _ _ _ _ _ _ _ _ _ _ _; first | refine awsf_intro (cC _) (fun hrun => ?_)) | (show OGE _ _ _ _ _ _ _; first | refine oge_intro (cC _) ?_) | (show AWSE _ _ _ _ _ _ _ _ _ _ _; first | refine awse_intro (cC _) (fun hrun => ?_)) | (show PGE _ _ _ _ _; first | refine pge_intro (cC _) (fun tm' => ?_))) <;> (simp only [go_sem, Nat.reduceAdd, Nat.reduceSub, Nat.reduceMul, Nat.reduceLeDiff, Nat.reduceLT, Nat.reduceEqDiff, Int.reduceToNat, Int.reduceAdd, Int.reduceMul, Int.reduceSub, Int.reduceLT, Int.reduceLE, Int.reduceEq, Int.reduceNeg, Int.reduceBEq, Int.reduceBNe, ↓reduceIte, reduceCtorEq] <;> try simp (disch := omega) only [wrap_of])) | (refine hn _ _ ?_; clear hn hp Kn Kp) | (refine hp _ _ _ ?_; clear hn hp Kn Kp) | (refine awpd_cond rfl (fun hb => ?_) (fun hb => ?_) <;> (try simp only [decide_eq_true_eq, decide_eq_false_iff_not, Bool.not_eq_true', Bool.not_eq_false', Bool.true_eq_false, Bool.false_eq_true, beq_iff_eq, bne_iff_ne, bne_eq_false_iff_eq, beq_eq_false_iff_ne, gt_iff_lt, ge_iff_le, Int.reduceEq, Int.reduceNe, Int.reduceLT, Int.reduceLE, ne_eq, not_true_eq_false, not_false_eq_true] at hb)) | ((first | refine awg_split (fun hb => ?_) (fun hb => ?_) | refine awsg_split (fun hb => ?_) (fun hb => ?_)) <;> have hb0 := hb <;> (try simp only [decide_eq_true_eq, decide_eq_false_iff_not, Bool.not_eq_true', Bool.not_eq_false', Bool.true_eq_false, Bool.false_eq_true, beq_iff_eq, bne_iff_ne, bne_eq_false_iff_eq, beq_eq_false_iff_ne, gt_iff_lt, ge_iff_le, Int.reduceEq, Int.reduceNe, Int.reduceLT, Int.reduceLE, ne_eq, not_true_eq_false, not_false_eq_true] at hb0) <;> (try simp only [beq_true, beq_false, Bool.not_eq_true', Bool.not_eq_false'] at hb) <;> (simp only [go_sem, Nat.reduceAdd, Nat.reduceSub, Nat.reduceMul, Nat.reduceLeDiff, Nat.reduceLT, Nat.reduceEqDiff, Int.reduceToNat, Int.reduceAdd, Int.reduceMul, Int.reduceSub, Int.reduceLT, Int.reduceLE, Int.reduceEq, Int.reduceNeg, Int.reduceBEq, Int.reduceBNe, ↓reduceIte, reduceCtorEq, hb, hb0] <;> try simp (disch := omega) only [wrap_of])) | (refine And.intro ?_ ?_) | refine awpd_ret ?_ | refine awpd_skip ?_ | refine awloop_step ?_ | fail)
    (refine resC ?_; (repeat' (first | exact True.intro | refine Lf.mk ?_ ?_)))
    (repeat' (first | exact trivial | exact Cv.refl _ | exact Cv.nil (Nat.succ_pos _) | exact PCv.refl _ | exact PCv.nil (Nat.succ_pos _) | refine And.intro ?_ ?_ | refine Cv.agg ?_ | refine Cv.tup ?_ | refine Cv.pv (PCv.rs ?_) | refine PCv.rs ?_))
  | true =>
    rw [hc] at cC
    by_cases hs : st.length = p.vars.length
    · have hv : validB p = false := by cases h : validB p with
        | false => rfl
        | true => exact absurd ⟨hc, hs, h⟩ hb
      rw [hv] at cW
      have hs' : ((st.length : Int) != (p.vars.length : Int)) = false := by rw [hs]; simp
      (refine ARun.introD Tryz.func16 rfl Tryz.call16 Tryz.ntmps16 Tryz.results16 ?_; simp only [List.length_cons, List.length_nil, List.length_map, Nat.reduceAdd, Nat.reduceSub, List.replicate_succ, List.replicate_zero, List.cons_append, List.nil_append])
      repeat' (first | refine awpd_seq ?_ | refine awp_block ?_ | (refine awpd_defer (id := 9) ?_; simp only [AWLD, go_sem, Nat.reduceAdd, Nat.reduceSub, Nat.reduceMul, Nat.reduceLeDiff, Nat.reduceLT, Nat.reduceEqDiff, Int.reduceToNat, Int.reduceAdd, Int.reduceMul, Int.reduceSub, Int.reduceLT, Int.reduceLE, Int.reduceEq, Int.reduceNeg, Int.reduceBEq, Int.reduceBNe, ↓reduceIte, reduceCtorEq, ls, List.length_map, hs']) | ((first | refine awpd_region_k fun Kn Kp hn hp => ?_ | show AWPD _ _ (Code.region 6 _ true) _ _ _ _; refine awpd_drawn_k (id := 6) [] [] [.win [0], .win [0], .win [0], .win [0], .win [0], .win [0], .win [0], .win [0], .win [0], .win [0], .win [0], .win [0], .win [0], .win [0], .win [0], .win [0]] 0 rfl (by as_aux_lemma => kernel_rfl) fun Kn Kp hn hp => ?_ | show AWPD _ _ (Code.region 10 _ true) _ _ _ _; refine awpd_drawn_k (id := 10) [2, 4, 7, 9] [] [.win [0, 1, 2, 3], .win [0, 1, 2, 3], .eff 0, .win [0, 1], .eff 1, .win [0, 1, 2, 3], .win [0, 1, 2, 3], .eff 2, .win [3], .eff 3, .win [4]] 4 rfl (by as_aux_lemma => kernel_rfl) fun Kn Kp hn hp => ?_ | refine oge_intro (by assumption) ?_ | (show AWE _ _ _ _ _ _ _ _ _; first | refine awe_intro (cC _) ?_ | refine awe_intro (cW _) ?_) | (show AWSF _ _ _ _ _ _ _ _ _ _ _; first | refine awsf_intro (cC _) (fun hrun => ?_) | refine awsf_intro (cW _) (fun hrun => ?_)) | (show OGE _ _ _ _ _ _ _; first | refine oge_intro (cC _) ?_ | refine oge_intro (cW _) ?_) | (show AWSE _ _ _ _ _ _ _ _ _ _ _; first | refine awse_intro (cC _) (fun hrun => ?_) | refine awse_intro (cW _) (fun hrun => ?_)) | (show PGE _ _ _ _ _; first | refine pge_intro (cC _) (fun tm' => ?_) | refine pge_intro (cW _) (fun tm' => ?_))) <;> (simp only [go_sem, Nat.reduceAdd, Nat.reduceSub, Nat.reduceMul, Nat.reduceLeDiff, Nat.reduceLT, Nat.reduceEqDiff, Int.reduceToNat, Int.reduceAdd, Int.reduceMul, Int.reduceSub, Int.reduceLT, Int.reduceLE, Int.reduceEq, Int.reduceNeg, Int.reduceBEq, Int.reduceBNe, ↓reduceIte, reduceCtorEq, ls, List.length_map, hs'] <;> try simp (disch := omega) only [wrap_of])) | (refine hn _ _ ?_; clear hn hp Kn Kp) | (refine hp _ _ _ ?_; clear hn hp Kn Kp) | (refine awpd_cond rfl (fun hb => ?_) (fun hb => ?_) <;> (try simp only [decide_eq_true_eq, decide_eq_false_iff_not, Bool.not_eq_true', Bool.not_eq_false', Bool.true_eq_false, Bool.false_eq_true, beq_iff_eq, bne_iff_ne, bne_eq_false_iff_eq, beq_eq_false_iff_ne, gt_iff_lt, ge_iff_le, Int.reduceEq, Int.reduceNe, Int.reduceLT, Int.reduceLE, ne_eq, not_true_eq_false, not_false_eq_true] at hb)) | ((first | refine awg_split (fun hb => ?_) (fun hb => ?_) | refine awsg_split (fun hb => ?_) (fun hb => ?_)) <;> have hb0 := hb <;> (try simp only [decide_eq_true_eq, decide_eq_false_iff_not, Bool.not_eq_true', Bool.not_eq_false', Bool.true_eq_false, Bool.false_eq_true, beq_iff_eq, bne_iff_ne, bne_eq_false_iff_eq, beq_eq_false_iff_ne, gt_iff_lt, ge_iff_le, Int.reduceEq, Int.reduceNe, Int.reduceLT, Int.reduceLE, ne_eq, not_true_eq_false, not_false_eq_true] at hb0) <;> (try simp only [beq_true, beq_false, Bool.not_eq_true', Bool.not_eq_false'] at hb) <;> (simp only [go_sem, Nat.reduceAdd, Nat.reduceSub, Nat.reduceMul, Nat.reduceLeDiff, Nat.reduceLT, Nat.reduceEqDiff, Int.reduceToNat, Int.reduceAdd, Int.reduceMul, Int.reduceSub, Int.reduceLT, Int.reduceLE, Int.reduceEq, Int.reduceNeg, Int.reduceBEq, Int.reduceBNe, ↓reduceIte, reduceCtorEq, ls, List.length_map, hs', hb, hb0] <;> try simp (disch := omega) only [wrap_of])) | (refine And.intro ?_ ?_) | refine awpd_ret ?_ | refine awpd_skip ?_ | refine awloop_step ?_ | fail)
      (refine resC ?_; (repeat' (first | exact True.intro | refine Lf.mk ?_ ?_)))
      (repeat' (first | exact trivial | exact Cv.refl _ | exact Cv.nil (Nat.succ_pos _) | exact PCv.refl _ | exact PCv.nil (Nat.succ_pos _) | refine And.intro ?_ ?_ | refine Cv.agg ?_ | refine Cv.tup ?_ | refine Cv.pv (PCv.rs ?_) | refine PCv.rs ?_))
    · have hs' : ((st.length : Int) != (p.vars.length : Int)) = true := by simp; omega
      (refine ARun.introD Tryz.func16 rfl Tryz.call16 Tryz.ntmps16 Tryz.results16 ?_; simp only [List.length_cons, List.length_nil, List.length_map, Nat.reduceAdd, Nat.reduceSub, List.replicate_succ, List.replicate_zero, List.cons_append, List.nil_append])
      repeat' (first | refine awpd_seq ?_ | refine awp_block ?_ | (refine awpd_defer (id := 9) ?_; simp only [AWLD, go_sem, Nat.reduceAdd, Nat.reduceSub, Nat.reduceMul, Nat.reduceLeDiff, Nat.reduceLT, Nat.reduceEqDiff, Int.reduceToNat, Int.reduceAdd, Int.reduceMul, Int.reduceSub, Int.reduceLT, Int.reduceLE, Int.reduceEq, Int.reduceNeg, Int.reduceBEq, Int.reduceBNe, ↓reduceIte, reduceCtorEq, ls, List.length_map, hs']) | ((first | refine awpd_region_k fun Kn Kp hn hp => ?_ | show AWPD _ _ (Code.region 6 _ true) _ _ _ _; refine awpd_drawn_k (id := 6) [] [] [.win [0], .win [0], .win [0], .win [0], .win [0], .win [0], .win [0], .win [0], .win [0], .win [0], .win [0], .win [0], .win [0], .win [0], .win [0], .win [0]] 0 rfl (by as_aux_lemma => kernel_rfl) fun Kn Kp hn hp => ?_ | show AWPD _ _ (Code.region 10 _ true) _ _ _ _; refine awpd_drawn_k (id := 10) [2, 4, 7, 9] [] [.win [0, 1, 2, 3], .win [0, 1, 2, 3], .eff 0, .win [0, 1], .eff 1, .win [0, 1, 2, 3], .win [0, 1, 2, 3], .eff 2, .win [3], .eff 3, .win [4]] 4 rfl (by as_aux_lemma => kernel_rfl) fun Kn Kp hn hp => ?_ | refine oge_intro (by assumption) ?_ | (show AWE _ _ _ _ _ _ _ _ _; first | refine awe_intro (cC _) ?_) | (show AWSF _ _ _ _ _ _ _ _ _ _ _; first | refine awsf_intro (cC _) (fun hrun => ?_)) | (show OGE _ _ _ _ _ _ _; first | refine oge_intro (cC _) ?_) | (show AWSE _ _ _ _ _ _ _ _ _ _ _; first | refine awse_intro (cC _) (fun hrun => ?_)) | (show PGE _ _ _ _ _; first | refine pge_intro (cC _) (fun tm' => ?_))) <;> (simp only [go_sem, Nat.reduceAdd, Nat.reduceSub, Nat.reduceMul, Nat.reduceLeDiff, Nat.reduceLT, Nat.reduceEqDiff, Int.reduceToNat, Int.reduceAdd, Int.reduceMul, Int.reduceSub, Int.reduceLT, Int.reduceLE, Int.reduceEq, Int.reduceNeg, Int.reduceBEq, Int.reduceBNe, ↓reduceIte, reduceCtorEq, ls, List.length_map, hs'] <;> try simp (disch := omega) only [wrap_of])) | (refine hn _ _ ?_; clear hn hp Kn Kp) | (refine hp _ _ _ ?_; clear hn hp Kn Kp) | (refine awpd_cond rfl (fun hb => ?_) (fun hb => ?_) <;> (try simp only [decide_eq_true_eq, decide_eq_false_iff_not, Bool.not_eq_true', Bool.not_eq_false', Bool.true_eq_false, Bool.false_eq_true, beq_iff_eq, bne_iff_ne, bne_eq_false_iff_eq, beq_eq_false_iff_ne, gt_iff_lt, ge_iff_le, Int.reduceEq, Int.reduceNe, Int.reduceLT, Int.reduceLE, ne_eq, not_true_eq_false, not_false_eq_true] at hb)) | ((first | refine awg_split (fun hb => ?_) (fun hb => ?_) | refine awsg_split (fun hb => ?_) (fun hb => ?_)) <;> have hb0 := hb <;> (try simp only [decide_eq_true_eq, decide_eq_false_iff_not, Bool.not_eq_true', Bool.not_eq_false', Bool.true_eq_false, Bool.false_eq_true, beq_iff_eq, bne_iff_ne, bne_eq_false_iff_eq, beq_eq_false_iff_ne, gt_iff_lt, ge_iff_le, Int.reduceEq, Int.reduceNe, Int.reduceLT, Int.reduceLE, ne_eq, not_true_eq_false, not_false_eq_true] at hb0) <;> (try simp only [beq_true, beq_false, Bool.not_eq_true', Bool.not_eq_false'] at hb) <;> (simp only [go_sem, Nat.reduceAdd, Nat.reduceSub, Nat.reduceMul, Nat.reduceLeDiff, Nat.reduceLT, Nat.reduceEqDiff, Int.reduceToNat, Int.reduceAdd, Int.reduceMul, Int.reduceSub, Int.reduceLT, Int.reduceLE, Int.reduceEq, Int.reduceNeg, Int.reduceBEq, Int.reduceBNe, ↓reduceIte, reduceCtorEq, ls, List.length_map, hs', hb, hb0] <;> try simp (disch := omega) only [wrap_of])) | (refine And.intro ?_ ?_) | refine awpd_ret ?_ | refine awpd_skip ?_ | refine awloop_step ?_ | fail)
      (refine resC ?_; (repeat' (first | exact True.intro | refine Lf.mk ?_ ?_)))
      (repeat' (first | exact trivial | exact Cv.refl _ | exact Cv.nil (Nat.succ_pos _) | exact PCv.refl _ | exact PCv.nil (Nat.succ_pos _) | refine And.intro ?_ ?_ | refine Cv.agg ?_ | refine Cv.tup ?_ | refine Cv.pv (PCv.rs ?_) | refine PCv.rs ?_))
theorem hand_fine {p : Prg} (h : okP p) (k : Nat) : fineL (handP p k) := by
  unfold okP at h
  unfold handP
  repeat' split
  · exact h.1.2
  · exact h.2.1.2
  · exact h.2.2.1.2
  · exact h.2.2.2.1.2
  · exact h.2.2.2.2.2
theorem hand_tot (p : Prg) (k : Nat) (h : totL p.on0 ≤ 1000000000 ∧ totL p.on1 ≤ 1000000000 ∧ totL p.on2 ≤ 1000000000 ∧ totL p.on3 ≤ 1000000000 ∧ totL p.on4 ≤ 1000000000) : totL (handP p k) ≤ 1000000000 := by
  unfold handP
  repeat' split
  · exact h.1
  · exact h.2.1
  · exact h.2.2.1
  · exact h.2.2.2.1
  · exact h.2.2.2.2
theorem MRun_good (p : Prg) (hl : p.vars.length ≤ 1000000) (hok : okP p) (hz : p.name.size ≤ 2000000) (hzv : ∀ v ∈ p.vars, v.name.size ≤ 2000000) (st : List Int) (x : Cal)
    (hT : totL p.on0 ≤ 1000000000 ∧ totL p.on1 ≤ 1000000000 ∧ totL p.on2 ≤ 1000000000 ∧ totL p.on3 ≤ 1000000000 ∧ totL p.on4 ≤ 1000000000)
    (hc : callOk x = true) (hs : st.length = p.vars.length) (hv : validB p = true) (H0 : List AObj) :
    ARun Tryz.prog 16 [.ag (cP p), .rs 1 (rI st), agL x] H0 (.ret (.tup [.rs 1 (rI (runL (runM p st x))), .i (runE (runM p st x))]) H0) := by
  have cW := fun H => CValid_run p hl hok hz hzv H
  have cC := fun H => MCall_run x H
  rw [hv] at cW
  rw [hc] at cC
  have hs' : ((st.length : Int) != (p.vars.length : Int)) = false := by rw [hs]; simp
  have ls : (rI st).length = st.length := List.length_map _
  (refine ARun.introD Tryz.func16 rfl Tryz.call16 Tryz.ntmps16 Tryz.results16 ?_; simp only [List.length_cons, List.length_nil, List.length_map, Nat.reduceAdd, Nat.reduceSub, List.replicate_succ, List.replicate_zero, List.cons_append, List.nil_append])
  repeat' (first | refine awpd_seq ?_ | refine awp_block ?_ | (refine awpd_defer (id := 9) ?_; simp only [AWLD, go_sem, Nat.reduceAdd, Nat.reduceSub, Nat.reduceMul, Nat.reduceLeDiff, Nat.reduceLT, Nat.reduceEqDiff, Int.reduceToNat, Int.reduceAdd, Int.reduceMul, Int.reduceSub, Int.reduceLT, Int.reduceLE, Int.reduceEq, Int.reduceNeg, Int.reduceBEq, Int.reduceBNe, ↓reduceIte, reduceCtorEq, ls, List.length_map, hs']) | ((first | refine awpd_region_k fun Kn Kp hn hp => ?_ | show AWPD _ _ (Code.region 6 _ true) _ _ _ _; refine awpd_drawn_k (id := 6) [] [] [.win [0], .win [0], .win [0], .win [0], .win [0], .win [0], .win [0], .win [0], .win [0], .win [0], .win [0], .win [0], .win [0], .win [0], .win [0], .win [0]] 0 rfl (by as_aux_lemma => kernel_rfl) fun Kn Kp hn hp => ?_ | show AWPD _ _ (Code.region 10 _ true) _ _ _ _; refine awpd_drawn_k (id := 10) [2, 4, 7, 9] [] [.win [0, 1, 2, 3], .win [0, 1, 2, 3], .eff 0, .win [0, 1], .eff 1, .win [0, 1, 2, 3], .win [0, 1, 2, 3], .eff 2, .win [3], .eff 3, .win [4]] 4 rfl (by as_aux_lemma => kernel_rfl) fun Kn Kp hn hp => ?_ | refine oge_intro (by assumption) ?_ | (show AWE _ _ _ _ _ _ _ _ _; first | refine awe_intro (cC _) ?_ | refine awe_intro (cW _) ?_) | (show AWSF _ _ _ _ _ _ _ _ _ _ _; first | refine awsf_intro (cC _) (fun hrun => ?_) | refine awsf_intro (cW _) (fun hrun => ?_)) | (show OGE _ _ _ _ _ _ _; first | refine oge_intro (cC _) ?_ | refine oge_intro (cW _) ?_) | (show AWSE _ _ _ _ _ _ _ _ _ _ _; first | refine awse_intro (cC _) (fun hrun => ?_) | refine awse_intro (cW _) (fun hrun => ?_)) | (show PGE _ _ _ _ _; first | refine pge_intro (cC _) (fun tm' => ?_) | refine pge_intro (cW _) (fun tm' => ?_))) <;> (simp only [go_sem, Nat.reduceAdd, Nat.reduceSub, Nat.reduceMul, Nat.reduceLeDiff, Nat.reduceLT, Nat.reduceEqDiff, Int.reduceToNat, Int.reduceAdd, Int.reduceMul, Int.reduceSub, Int.reduceLT, Int.reduceLE, Int.reduceEq, Int.reduceNeg, Int.reduceBEq, Int.reduceBNe, ↓reduceIte, reduceCtorEq, ls, List.length_map, hs'] <;> try simp (disch := omega) only [wrap_of])) | (refine hn _ _ ?_; clear hn hp Kn Kp) | (refine hp _ _ _ ?_; clear hn hp Kn Kp) | (refine awpd_cond rfl (fun hb => ?_) (fun hb => ?_) <;> (try simp only [decide_eq_true_eq, decide_eq_false_iff_not, Bool.not_eq_true', Bool.not_eq_false', Bool.true_eq_false, Bool.false_eq_true, beq_iff_eq, bne_iff_ne, bne_eq_false_iff_eq, beq_eq_false_iff_ne, gt_iff_lt, ge_iff_le, Int.reduceEq, Int.reduceNe, Int.reduceLT, Int.reduceLE, ne_eq, not_true_eq_false, not_false_eq_true] at hb)) | ((first | refine awg_split (fun hb => ?_) (fun hb => ?_) | refine awsg_split (fun hb => ?_) (fun hb => ?_)) <;> have hb0 := hb <;> (try simp only [decide_eq_true_eq, decide_eq_false_iff_not, Bool.not_eq_true', Bool.not_eq_false', Bool.true_eq_false, Bool.false_eq_true, beq_iff_eq, bne_iff_ne, bne_eq_false_iff_eq, beq_eq_false_iff_ne, gt_iff_lt, ge_iff_le, Int.reduceEq, Int.reduceNe, Int.reduceLT, Int.reduceLE, ne_eq, not_true_eq_false, not_false_eq_true] at hb0) <;> (try simp only [beq_true, beq_false, Bool.not_eq_true', Bool.not_eq_false'] at hb) <;> (simp only [go_sem, Nat.reduceAdd, Nat.reduceSub, Nat.reduceMul, Nat.reduceLeDiff, Nat.reduceLT, Nat.reduceEqDiff, Int.reduceToNat, Int.reduceAdd, Int.reduceMul, Int.reduceSub, Int.reduceLT, Int.reduceLE, Int.reduceEq, Int.reduceNeg, Int.reduceBEq, Int.reduceBNe, ↓reduceIte, reduceCtorEq, ls, List.length_map, hs', hb, hb0] <;> try simp (disch := omega) only [wrap_of])) | (refine And.intro ?_ ?_) | refine awpd_ret ?_ | refine awpd_skip ?_ | refine awloop_step ?_ | fail)
  refine awpd_off ?_
  (have rr1 := dr16_6_X30k; have rr2 := dr16_10_X30k; have ww1 := ls; refine wk ?_; clear rr1 rr2 ww1; (repeat' first | exact True.intro | refine Lf.mk ?_ ?_); all_goals intro hP)
  refine awp_loop_ind (σ := Nat) (fun k => p.vars.length - k) (fun k => k ≤ p.vars.length ∧ stIn p.vars st = stIn (p.vars.drop k) (st.drop k))
    (fun k => (.any :: .rs 1 (rI st) :: .any :: .p H0.length 0 :: .any :: .p (H0.length + 1) 0 :: .p (H0.length + 2) 0 :: .p (H0.length + 3) 0 :: .any :: .any :: .any :: .any :: .any :: .any :: .any :: .any :: .any :: .any :: .any :: .any :: .any :: .any :: .any :: .any :: .any :: .any :: .any :: .any :: .rs 5 (p.vars.map encV) :: .i p.vars.length :: .i k :: .any :: .any :: .any :: .any :: .any :: .any :: .any :: .any :: .any :: .any :: .any :: .any :: .any :: .any :: .any :: .any :: .any :: .any :: .any :: .any :: .any :: .any :: .any :: .any :: .any :: .any :: .any :: .any :: .any :: .any :: .any :: .any :: .any :: .any :: .any :: .any :: .any :: .any :: .any :: .any :: .any :: .any :: .any :: []))
    (fun k => H0 ++ [.cells 26 ((cP p).map AV.pv), .cells 30 [.i x.ev, .i x.i0, .i x.i1, .i x.i2, .i x.i3], .cells 27 [.pv (.sc (.slice none 0 0))], .cells 37 [.i 0]]) 0 ⟨Nat.zero_le _, rfl⟩ (by (refine fgtX ?_; try exact True.intro)) ?_
  rintro k ⟨k1, k2⟩
  have hw : IntKind.i64.wrap ((k : Int) + 1) = ((k + 1 : Nat) : Int) := by rw [wrap_of (by omega) (by omega)]; omega
  cases hr : p.vars.drop k with
  | nil =>
    have hlt := drop_nil hr
    have hk : p.vars.length ≤ k := List.drop_eq_nil_iff.1 hr
    have hst : stIn p.vars st = true := by rw [k2, hr, List.drop_eq_nil_iff.2 (by omega)]; rfl
    have hM : runM p st x = runStL p.vars x.i0 x.i1 x.i2 x.i3 (handP p x.ev.toNat) st := by unfold runM; rw [if_pos ⟨hc, hst, hv⟩]
    rw [hM]
    (have rr1 := dr16_6_X30k; have rr2 := dr16_10_X30k; have ww1 := hlt; refine wk ?_; clear rr1 rr2 ww1; (repeat' first | exact True.intro | refine Lf.mk ?_ ?_); all_goals intro hP)
    simp only [go_sem, Nat.reduceAdd, Nat.reduceSub, Nat.reduceMul, Nat.reduceLeDiff, Nat.reduceLT, Nat.reduceEqDiff, Int.reduceToNat, Int.reduceAdd, Int.reduceMul, Int.reduceSub, Int.reduceLT, Int.reduceLE, Int.reduceEq, Int.reduceNeg, Int.reduceBEq, Int.reduceBNe, ↓reduceIte, reduceCtorEq]
    have f1 : st.length * 8 ≤ 140737488355328 := by omega
    have f2 : st.length ≤ 9223372036854775807 := by omega
    have q1 : (rI st).map (fun r => r.map AV.pv) = nR st := rfl
    have q2 := nR_len st
    have cO : ∀ (a b c d e : AObj), ARun Tryz.prog 37 [] (H0 ++ [a, b, c, d, e]) (.ret (.mp (H0.length + 5)) (H0 ++ [a, b, c, d, e, .imap opsT])) := fun a b c d e => by
      have := operations_run (H0 ++ [a, b, c, d, e])
      simpa using this
    obtain ⟨us, V⟩ := validB_val hv
    obtain ⟨w1, w2, w3⟩ := val_hand V x.ev.toNat
    have hfi := hand_fine hok x.ev.toNat
    have htl : totL (handP p x.ev.toNat) ≤ 1000000000 := hand_tot p x.ev.toNat hT
    have cR := fun (a b c d : AObj) => mrun_run (us := us) V.len hl (H0.length + 6) (H0.length + 5) (H0.length + 4) x.i0 x.i1 x.i2 x.i3 _ (handP p x.ev.toNat) (Nat.le_refl _) w1 hfi htl st
      (H0 ++ [a, b, c, d, .arr 3 1 (nR st), .imap opsT, .cells 68 [.rs 5 (p.vars.map encV), .os (H0.length + 4) 0 st.length st.length, .i x.i0, .i x.i1, .i x.i2, .i x.i3, .mp (H0.length + 5)]]) hs ⟨⟨getOk _ _ _, getOk _ _ _⟩, getOk _ _ _⟩
    have hev : (x.ev = 0 ∧ handP p x.ev.toNat = p.on0) ∨ (x.ev = 1 ∧ handP p x.ev.toNat = p.on1) ∨ (x.ev = 2 ∧ handP p x.ev.toNat = p.on2) ∨ (x.ev = 3 ∧ handP p x.ev.toNat = p.on3) ∨ (x.ev = 4 ∧ handP p x.ev.toNat = p.on4) := by
      have := call_ev hc
      have h5 : x.ev = 0 ∨ x.ev = 1 ∨ x.ev = 2 ∨ x.ev = 3 ∨ x.ev = 4 := by omega
      rcases h5 with h | h | h | h | h <;> rw [h] <;> simp [handP]
    cases hq : runStL p.vars x.i0 x.i1 x.i2 x.i3 (handP p x.ev.toNat) st with
    | ok st' =>
      have hl2 := runStL_len _ _ _ hq
      have q3 := nR_len st'
      simp only [hq, outR, mS, setOk, List.set_cons_succ, List.set_cons_zero] at cR
      simp only [runL, runE]
      rcases hev with ⟨e1, e2⟩ | ⟨e1, e2⟩ | ⟨e1, e2⟩ | ⟨e1, e2⟩ | ⟨e1, e2⟩
      all_goals
        rw [e2] at cR
        clear cW cC hM
        repeat' (first | refine awpd_seq ?_ | refine awp_block ?_ | (refine awpd_defer (id := 9) ?_; simp only [AWLD, go_sem, Nat.reduceAdd, Nat.reduceSub, Nat.reduceMul, Nat.reduceLeDiff, Nat.reduceLT, Nat.reduceEqDiff, Int.reduceToNat, Int.reduceAdd, Int.reduceMul, Int.reduceSub, Int.reduceLT, Int.reduceLE, Int.reduceEq, Int.reduceNeg, Int.reduceBEq, Int.reduceBNe, ↓reduceIte, reduceCtorEq, ls, f1, f2, q1, q2, List.nil_append, Nat.zero_add, e1]) | ((first | refine awpd_region_k fun Kn Kp hn hp => ?_ | show AWPD _ _ (Code.region 6 _ true) _ _ _ _; refine awpd_drawn_k (id := 6) [] [] [.win [0], .win [0], .win [0], .win [0], .win [0], .win [0], .win [0], .win [0], .win [0], .win [0], .win [0], .win [0], .win [0], .win [0], .win [0], .win [0]] 0 rfl (by as_aux_lemma => kernel_rfl) fun Kn Kp hn hp => ?_ | show AWPD _ _ (Code.region 10 _ true) _ _ _ _; refine awpd_drawn_k (id := 10) [2, 4, 7, 9] [] [.win [0, 1, 2, 3], .win [0, 1, 2, 3], .eff 0, .win [0, 1], .eff 1, .win [0, 1, 2, 3], .win [0, 1, 2, 3], .eff 2, .win [3], .eff 3, .win [4]] 4 rfl (by as_aux_lemma => kernel_rfl) fun Kn Kp hn hp => ?_ | refine oge_intro (by assumption) ?_ | (show AWE _ _ _ _ _ _ _ _ _; first | refine awe_intro (cO _ _ _ _ _) ?_ | refine awe_intro (cR _ _ _ _) ?_) | (show AWSF _ _ _ _ _ _ _ _ _ _ _; first | refine awsf_intro (cO _ _ _ _ _) (fun hrun => ?_) | refine awsf_intro (cR _ _ _ _) (fun hrun => ?_)) | (show OGE _ _ _ _ _ _ _; first | refine oge_intro (cO _ _ _ _ _) ?_ | refine oge_intro (cR _ _ _ _) ?_) | (show AWSE _ _ _ _ _ _ _ _ _ _ _; first | refine awse_intro (cO _ _ _ _ _) (fun hrun => ?_) | refine awse_intro (cR _ _ _ _) (fun hrun => ?_)) | (show PGE _ _ _ _ _; first | refine pge_intro (cO _ _ _ _ _) (fun tm' => ?_) | refine pge_intro (cR _ _ _ _) (fun tm' => ?_))) <;> (simp only [go_sem, Nat.reduceAdd, Nat.reduceSub, Nat.reduceMul, Nat.reduceLeDiff, Nat.reduceLT, Nat.reduceEqDiff, Int.reduceToNat, Int.reduceAdd, Int.reduceMul, Int.reduceSub, Int.reduceLT, Int.reduceLE, Int.reduceEq, Int.reduceNeg, Int.reduceBEq, Int.reduceBNe, ↓reduceIte, reduceCtorEq, ls, f1, f2, q1, q2, List.nil_append, Nat.zero_add, e1] <;> try simp (disch := omega) only [wrap_of])) | (refine hn _ _ ?_; clear hn hp Kn Kp) | (refine hp _ _ _ ?_; clear hn hp Kn Kp) | (refine awpd_cond rfl (fun hb => ?_) (fun hb => ?_) <;> (try simp only [decide_eq_true_eq, decide_eq_false_iff_not, Bool.not_eq_true', Bool.not_eq_false', Bool.true_eq_false, Bool.false_eq_true, beq_iff_eq, bne_iff_ne, bne_eq_false_iff_eq, beq_eq_false_iff_ne, gt_iff_lt, ge_iff_le, Int.reduceEq, Int.reduceNe, Int.reduceLT, Int.reduceLE, ne_eq, not_true_eq_false, not_false_eq_true] at hb)) | ((first | refine awg_split (fun hb => ?_) (fun hb => ?_) | refine awsg_split (fun hb => ?_) (fun hb => ?_)) <;> have hb0 := hb <;> (try simp only [decide_eq_true_eq, decide_eq_false_iff_not, Bool.not_eq_true', Bool.not_eq_false', Bool.true_eq_false, Bool.false_eq_true, beq_iff_eq, bne_iff_ne, bne_eq_false_iff_eq, beq_eq_false_iff_ne, gt_iff_lt, ge_iff_le, Int.reduceEq, Int.reduceNe, Int.reduceLT, Int.reduceLE, ne_eq, not_true_eq_false, not_false_eq_true] at hb0) <;> (try simp only [beq_true, beq_false, Bool.not_eq_true', Bool.not_eq_false'] at hb) <;> (simp only [go_sem, Nat.reduceAdd, Nat.reduceSub, Nat.reduceMul, Nat.reduceLeDiff, Nat.reduceLT, Nat.reduceEqDiff, Int.reduceToNat, Int.reduceAdd, Int.reduceMul, Int.reduceSub, Int.reduceLT, Int.reduceLE, Int.reduceEq, Int.reduceNeg, Int.reduceBEq, Int.reduceBNe, ↓reduceIte, reduceCtorEq, ls, f1, f2, q1, q2, List.nil_append, Nat.zero_add, e1, hb, hb0] <;> try simp (disch := omega) only [wrap_of])) | (refine And.intro ?_ ?_) | refine awpd_ret ?_ | refine awpd_skip ?_ | refine awloop_step ?_ | fail)
        refine ⟨_, runD_none _ _ _, ?_⟩
        (refine resC ?_; (repeat' (first | exact True.intro | refine Lf.mk ?_ ?_)))
        rw [if_pos (by omega), List.take_of_length_le (by omega), nR_toPVs]
        exact Cv.refl _
    | error z =>
      simp only [hq, outR, mS, setOk, List.set_cons_succ, List.set_cons_zero] at cR
      simp only [runL, runE]
      rcases hev with ⟨e1, e2⟩ | ⟨e1, e2⟩ | ⟨e1, e2⟩ | ⟨e1, e2⟩ | ⟨e1, e2⟩
      all_goals
        rw [e2] at cR
        clear cW cC hM
        generalize stopL _ _ _ _ _ _ _ = stp at *
        repeat' (first | refine awpd_seq ?_ | refine awp_block ?_ | (refine awpd_defer (id := 9) ?_; simp only [AWLD, go_sem, Nat.reduceAdd, Nat.reduceSub, Nat.reduceMul, Nat.reduceLeDiff, Nat.reduceLT, Nat.reduceEqDiff, Int.reduceToNat, Int.reduceAdd, Int.reduceMul, Int.reduceSub, Int.reduceLT, Int.reduceLE, Int.reduceEq, Int.reduceNeg, Int.reduceBEq, Int.reduceBNe, ↓reduceIte, reduceCtorEq, ls, f1, f2, q1, q2, List.nil_append, Nat.zero_add, e1]) | ((first | refine awpd_region_k fun Kn Kp hn hp => ?_ | show AWPD _ _ (Code.region 6 _ true) _ _ _ _; refine awpd_drawn_k (id := 6) [] [] [.win [0], .win [0], .win [0], .win [0], .win [0], .win [0], .win [0], .win [0], .win [0], .win [0], .win [0], .win [0], .win [0], .win [0], .win [0], .win [0]] 0 rfl (by as_aux_lemma => kernel_rfl) fun Kn Kp hn hp => ?_ | show AWPD _ _ (Code.region 10 _ true) _ _ _ _; refine awpd_drawn_k (id := 10) [2, 4, 7, 9] [] [.win [0, 1, 2, 3], .win [0, 1, 2, 3], .eff 0, .win [0, 1], .eff 1, .win [0, 1, 2, 3], .win [0, 1, 2, 3], .eff 2, .win [3], .eff 3, .win [4]] 4 rfl (by as_aux_lemma => kernel_rfl) fun Kn Kp hn hp => ?_ | refine oge_intro (by assumption) ?_ | (show AWE _ _ _ _ _ _ _ _ _; first | refine awe_intro (cO _ _ _ _ _) ?_ | refine awe_intro (cR _ _ _ _) ?_) | (show AWSF _ _ _ _ _ _ _ _ _ _ _; first | refine awsf_intro (cO _ _ _ _ _) (fun hrun => ?_) | refine awsf_intro (cR _ _ _ _) (fun hrun => ?_)) | (show OGE _ _ _ _ _ _ _; first | refine oge_intro (cO _ _ _ _ _) ?_ | refine oge_intro (cR _ _ _ _) ?_) | (show AWSE _ _ _ _ _ _ _ _ _ _ _; first | refine awse_intro (cO _ _ _ _ _) (fun hrun => ?_) | refine awse_intro (cR _ _ _ _) (fun hrun => ?_)) | (show PGE _ _ _ _ _; first | refine pge_intro (cO _ _ _ _ _) (fun tm' => ?_) | refine pge_intro (cR _ _ _ _) (fun tm' => ?_))) <;> (simp only [go_sem, Nat.reduceAdd, Nat.reduceSub, Nat.reduceMul, Nat.reduceLeDiff, Nat.reduceLT, Nat.reduceEqDiff, Int.reduceToNat, Int.reduceAdd, Int.reduceMul, Int.reduceSub, Int.reduceLT, Int.reduceLE, Int.reduceEq, Int.reduceNeg, Int.reduceBEq, Int.reduceBNe, ↓reduceIte, reduceCtorEq, ls, f1, f2, q1, q2, List.nil_append, Nat.zero_add, e1] <;> try simp (disch := omega) only [wrap_of])) | (refine hn _ _ ?_; clear hn hp Kn Kp) | (refine hp _ _ _ ?_; clear hn hp Kn Kp) | (refine awpd_cond rfl (fun hb => ?_) (fun hb => ?_) <;> (try simp only [decide_eq_true_eq, decide_eq_false_iff_not, Bool.not_eq_true', Bool.not_eq_false', Bool.true_eq_false, Bool.false_eq_true, beq_iff_eq, bne_iff_ne, bne_eq_false_iff_eq, beq_eq_false_iff_ne, gt_iff_lt, ge_iff_le, Int.reduceEq, Int.reduceNe, Int.reduceLT, Int.reduceLE, ne_eq, not_true_eq_false, not_false_eq_true] at hb)) | ((first | refine awg_split (fun hb => ?_) (fun hb => ?_) | refine awsg_split (fun hb => ?_) (fun hb => ?_)) <;> have hb0 := hb <;> (try simp only [decide_eq_true_eq, decide_eq_false_iff_not, Bool.not_eq_true', Bool.not_eq_false', Bool.true_eq_false, Bool.false_eq_true, beq_iff_eq, bne_iff_ne, bne_eq_false_iff_eq, beq_eq_false_iff_ne, gt_iff_lt, ge_iff_le, Int.reduceEq, Int.reduceNe, Int.reduceLT, Int.reduceLE, ne_eq, not_true_eq_false, not_false_eq_true] at hb0) <;> (try simp only [beq_true, beq_false, Bool.not_eq_true', Bool.not_eq_false'] at hb) <;> (simp only [go_sem, Nat.reduceAdd, Nat.reduceSub, Nat.reduceMul, Nat.reduceLeDiff, Nat.reduceLT, Nat.reduceEqDiff, Int.reduceToNat, Int.reduceAdd, Int.reduceMul, Int.reduceSub, Int.reduceLT, Int.reduceLE, Int.reduceEq, Int.reduceNeg, Int.reduceBEq, Int.reduceBNe, ↓reduceIte, reduceCtorEq, ls, f1, f2, q1, q2, List.nil_append, Nat.zero_add, e1, hb, hb0] <;> try simp (disch := omega) only [wrap_of])) | (refine And.intro ?_ ?_) | refine awpd_ret ?_ | refine awpd_skip ?_ | refine awloop_step ?_ | fail)
        refine ⟨_, runD_pan _ _ (by omega) _ z _ 0 (by rw [getOk]; rfl) (by rw [getOk]; rfl), ?_⟩
        (refine resC ?_; (repeat' (first | exact True.intro | refine Lf.mk ?_ ?_)))
        (repeat' (first | exact trivial | exact Cv.refl _ | exact Cv.nil (Nat.succ_pos _) | exact PCv.refl _ | exact PCv.nil (Nat.succ_pos _) | refine And.intro ?_ ?_ | refine Cv.agg ?_ | refine Cv.tup ?_ | refine Cv.pv (PCv.rs ?_) | refine PCv.rs ?_))
  | cons v rest =>
    obtain ⟨hvk, hlt, hd, hm⟩ := drop_cons hr
    have hv' : (p.vars.map encV)[k]? = some (cV v) := by rw [List.getElem?_map, hvk]; rfl
    have hks : k < st.length := by omega
    obtain ⟨n, hn2⟩ : ∃ n, st[k]? = some n := ⟨_, List.getElem?_eq_getElem hks⟩
    have hs2 : (rI st)[k]? = some [.i n] := by rw [List.getElem?_map, hn2]; rfl
    have hsd : st.drop k = n :: st.drop (k + 1) := by rw [List.drop_eq_getElem_cons hks]; congr 1; rw [List.getElem?_eq_getElem hks] at hn2; exact Option.some.inj hn2
    have hlt2 : (k : Int) < (st.length : Int) := by omega
    rw [hr, hsd] at k2
    simp only [stIn] at k2
    by_cases hin : v.low ≤ n ∧ n ≤ v.high
    · rw [decide_eq_true hin, Bool.true_and] at k2
      have p1 : ¬ n < v.low := by omega
      have p2 : ¬ v.high < n := by omega
      (have rr1 := dr16_6_X30k; have rr2 := dr16_10_X30k; have ww1 := hlt; have ww2 := hv'; have ww3 := hw; have ww4 := hs2; have ww5 := hlt2; have ww6 := p1; have ww7 := p2; have ww8 := ls; refine wk ?_; clear rr1 rr2 ww1 ww2 ww3 ww4 ww5 ww6 ww7 ww8; (repeat' first | exact True.intro | refine Lf.mk ?_ ?_); all_goals intro hP)
      refine ⟨k + 1, by omega, ⟨by omega, by rw [k2, hd]⟩, ?_⟩
      refine Wk.dropE (L := [.cells 59 ((cV v).map AV.pv)]) (by simp) 1 ?_
      simp only [List.map_cons, List.map_nil, AV.low, List.length_append, List.length_cons, List.length_nil, Nat.lt_irrefl, if_false, Fgt, true_or, or_true, and_true, true_and, Nat.lt_add_right_iff_pos, Nat.add_lt_add_iff_left, Nat.lt_add_one, Nat.reduceLT, if_true, eq_self, Nat.zero_add, Nat.reduceAdd]
    · rw [decide_eq_false hin, Bool.false_and] at k2
      have hM : runM p st x = .error 1 := by unfold runM; rw [if_neg (fun h => by rw [k2] at h; exact absurd h.2.1 (by simp))]
      rw [hM]
      simp only [runL, runE]
      by_cases p1 : n < v.low
      · (have rr1 := dr16_6_X30k; have rr2 := dr16_10_X30k; have ww1 := hlt; have ww2 := hv'; have ww3 := hw; have ww4 := hs2; have ww5 := hlt2; have ww6 := p1; have ww7 := ls; refine wk ?_; clear rr1 rr2 ww1 ww2 ww3 ww4 ww5 ww6 ww7; (repeat' first | exact True.intro | refine Lf.mk ?_ ?_); all_goals intro hP)
        (refine resC ?_; (repeat' (first | exact True.intro | refine Lf.mk ?_ ?_)))
        (repeat' (first | exact trivial | exact Cv.refl _ | exact Cv.nil (Nat.succ_pos _) | exact PCv.refl _ | exact PCv.nil (Nat.succ_pos _) | refine And.intro ?_ ?_ | refine Cv.agg ?_ | refine Cv.tup ?_ | refine Cv.pv (PCv.rs ?_) | refine PCv.rs ?_))
      · have p2 : v.high < n := by omega
        (have rr1 := dr16_6_X30k; have rr2 := dr16_10_X30k; have ww1 := hlt; have ww2 := hv'; have ww3 := hw; have ww4 := hs2; have ww5 := hlt2; have ww6 := p1; have ww7 := p2; have ww8 := ls; refine wk ?_; clear rr1 rr2 ww1 ww2 ww3 ww4 ww5 ww6 ww7 ww8; (repeat' first | exact True.intro | refine Lf.mk ?_ ?_); all_goals intro hP)
        (refine resC ?_; (repeat' (first | exact True.intro | refine Lf.mk ?_ ?_)))
        (repeat' (first | exact trivial | exact Cv.refl _ | exact Cv.nil (Nat.succ_pos _) | exact PCv.refl _ | exact PCv.nil (Nat.succ_pos _) | refine And.intro ?_ ?_ | refine Cv.agg ?_ | refine Cv.tup ?_ | refine Cv.pv (PCv.rs ?_) | refine PCv.rs ?_))
theorem totS_le (s : St) : tot s ≤ wS s := by
  have hl : ∀ l : List St, (∀ k ∈ l, tot k ≤ wS k) → totL l ≤ wSL l := by
    intro l
    induction l with
    | nil => intro _; simp [totL]
    | cons x xs ih => intro h; simp only [totL, wSL]; have := h x (by simp); have := ih (fun k hk => h k (by simp [hk])); omega
  induction s using St.ind with
  | h s h1 h2 => rw [tot_eq, wS_eq]; have := hl _ h1; have := hl _ h2; omega
theorem totL_le : ∀ l : List St, totL l ≤ wSL l
  | [] => by simp [totL]
  | s :: l => by simp only [totL, wSL]; have := totS_le s; have := totL_le l; omega
/-- A program of bounded size. -/
structure PM (p : Prg) : Prop where
  w : wSL p.on0 + wSL p.on1 + wSL p.on2 + wSL p.on3 + wSL p.on4 ≤ 900000
  l : p.vars.length ≤ 1000000
  z : p.name.size ≤ 2000000
  zv : ∀ v ∈ p.vars, v.name.size ≤ 2000000
theorem PM.mstart {p : Prg} (h : PM p) (H0 : List AObj) : ARun Tryz.prog 12 [.ag (cP p)] H0 (.ret (.tup [.rs 1 (rI (runL (startR p))), .i (runE (startR p))]) H0) :=
  MStart_run p h.l (okP_of h.w) h.z h.zv H0
theorem PM.mrun {p : Prg} (h : PM p) (st : List Int) (x : Cal) (H0 : List AObj) : ARun Tryz.prog 16 [.ag (cP p), .rs 1 (rI st), agL x] H0 (.ret (.tup [.rs 1 (rI (runL (runM p st x))), .i (runE (runM p st x))]) H0) := by
  by_cases hb : callOk x = true ∧ st.length = p.vars.length ∧ validB p = true
  · refine MRun_good p h.l (okP_of h.w) h.z h.zv st x ?_ hb.1 hb.2.1 hb.2.2 H0
    have := h.w
    have := totL_le p.on0
    have := totL_le p.on1
    have := totL_le p.on2
    have := totL_le p.on3
    have := totL_le p.on4
    omega
  · have hM : runM p st x = .error 1 := by
      unfold runM
      rw [if_neg]
      rintro ⟨a, b, c⟩
      exact hb ⟨a, stIn_len b, c⟩
    rw [hM]
    exact MRun_bad p h.l (okP_of h.w) h.z h.zv st x hb H0
theorem low_row {H : List AObj} {id t sz n d : Nat} {rows : List (List PV)} (h : H[id]? = some (.arr t sz (pvRows rows))) (hn : rows.length = n) : (AV.os id 0 n n).low H 0 (d + 1) = .pv (.rs sz rows) := by
  subst hn
  simp only [AV.low, Nat.not_lt_zero, if_false, AV.toPV, h, pvRows_len, Nat.zero_le, and_self, if_true, List.drop_zero]
  rw [List.take_of_length_le (by rw [pvRows_len]; exact Nat.le_refl _)]
  unfold pvRows
  rw [toPVs_pvs]
  rfl
theorem dr33_6_X20k : Drawn Tryz.prog 6 (regOps 6 ((Tryz.f33.body).getD .skip)) [5, 16] [] [.win [0], .win [0], .win [0], .win [0], .win [0], .eff 0, .win [1], .win [1], .win [1], .win [1], .win [1], .win [1], .win [1], .win [1], .win [1], .win [1], .eff 1, .win [1, 2], .win [2], .win [2]] 2 [] := ⟨rfl, by as_aux_lemma => kernel_rfl⟩
theorem RValid_run (p : Prg) (hf : fine1 p) (hz : p.name.size ≤ 2000000) (hzv : ∀ v ∈ p.vars, v.name.size ≤ 2000000) (H0 : List AObj) :
    ARun Tryz.prog 33 [.ag (cP p)] H0 (.ret (.b (validB p)) H0) := by
  have n1 := fun H0 => Name_run p.name hz H0
  have hl : p.vars.length ≤ 1100000 := by have := hf; unfold fine1 at this; omega
  by_cases hlen : 1 ≤ p.vars.length ∧ p.vars.length ≤ 12
  · obtain ⟨len1, len2⟩ := hlen
    cases hnm : nameB p.name with
    | false =>
      rw [hnm] at n1
      have hr : validB p = false := by unfold validB; rw [hnm]; simp
      rw [hr]
      clear hr
      (refine ARun.intro Tryz.func33 rfl Tryz.call33 Tryz.ntmps33 Tryz.results33 ?_; simp only [List.length_cons, List.length_nil, List.length_map, Nat.reduceAdd, Nat.reduceSub, List.replicate_succ, List.replicate_zero, List.cons_append, List.nil_append])
      (have rr1 := dr33_6_X20k; have cc1 := fun z1 => n1 z1; refine wkO ?_; clear rr1 cc1; (repeat' first | exact True.intro | refine Lf.mk ?_ ?_); all_goals intro hP)
      (refine resX ?_; try exact True.intro)
    | true =>
      rw [hnm] at n1
      have hr : validB p = (oneR p.vars p.vars 0 && (decide (checkS p = (-1, 0)) && (usesB p.vars p.window 1 && (decide (p.pace = -1) || usesB p.vars p.pace 4)))) := by
        unfold validB; rw [oneR_all, hnm, decide_eq_true len1, decide_eq_true len2]; simp [Bool.and_assoc]
      rw [hr]
      clear hr
      have c1 := fun H0 => RCheck_run p hf H0
      have c2 := fun H0 => RUses_run p.vars p.window 1 (by omega) H0
      have c3 := fun H0 => RUses_run p.vars p.pace 4 (by omega) H0
      (refine ARun.intro Tryz.func33 rfl Tryz.call33 Tryz.ntmps33 Tryz.results33 ?_; simp only [List.length_cons, List.length_nil, List.length_map, Nat.reduceAdd, Nat.reduceSub, List.replicate_succ, List.replicate_zero, List.cons_append, List.nil_append])
      (have rr1 := dr33_6_X20k; have cc1 := fun z1 => n1 z1; refine wkO ?_; clear rr1 cc1; (repeat' first | exact True.intro | refine Lf.mk ?_ ?_); all_goals intro hP)
      refine awp_loop_ind (σ := Nat) (fun k => p.vars.length - k) (fun k => k ≤ p.vars.length ∧ oneR p.vars p.vars 0 = oneR p.vars (p.vars.drop k) k)
        (fun k => (.any :: .p H0.length 0 :: .any :: .i k :: .any :: .any :: .any :: .any :: .any :: .any :: .any :: .any :: .any :: .any :: .any :: .any :: .any :: .any :: .any :: .any :: .any :: .any :: .any :: .any :: .any :: .any :: .any :: .any :: .any :: .any :: .any :: .any :: .any :: .any :: .any :: .any :: .any :: .any :: .any :: .any :: .any :: .any :: .any :: .any :: .any :: .any :: .any :: .any :: .any :: .any :: .any :: .any :: .any :: .any :: .any :: .any :: .any :: .any :: .any :: .any :: .any :: .any :: .any :: .any :: .any :: .any :: .any :: .any :: .any :: .any :: .any :: .any :: .any :: .any :: .any :: .any :: .any :: .any :: .any :: []))
        (fun k => H0 ++ [.cells 26 ((cP p).map AV.pv)]) 0 ⟨Nat.zero_le _, by simp⟩ (by (refine fgtX ?_; try exact True.intro)) ?_
      rintro k ⟨k1, k2⟩
      have hw : IntKind.i64.wrap ((k : Int) + 1) = ((k + 1 : Nat) : Int) := by rw [wrap_of (by omega) (by omega)]; omega
      cases hd : p.vars.drop k with
      | nil =>
        have hk : p.vars.length ≤ k := List.drop_eq_nil_iff.1 hd
        rw [hd] at k2
        rw [k2, show oneR p.vars [] k = true from rfl, Bool.true_and]
        clear k2
        have hans : ∀ x, ansC x = .tup [.i x.1, .i x.2] := fun x => rfl
        have hdec : decide (checkS p = (-1, 0)) = (decide ((checkS p).1 = -1) && decide ((checkS p).2 = 0)) := by
          rw [Bool.eq_iff_iff]; simp [Prod.ext_iff]
        rw [hdec]
        generalize checkS p = c at c1 ⊢
        cases hu1 : usesB p.vars p.window 1 <;> cases hu2 : usesB p.vars p.pace 4
        all_goals
          rw [hu1] at c2
          rw [hu2] at c3
          (have rr1 := dr33_6_X20k; have ww1 := hans; have cc1 := fun z1 => c1 z1; have cc2 := fun z1 => c2 z1; have cc3 := fun z1 => c3 z1; refine wkO ?_; clear rr1 ww1 cc1 cc2 cc3; (repeat' first | exact True.intro | refine Lf.mk ?_ ?_); all_goals intro hP)
          all_goals clear c1 c2 c3 n1
          all_goals ((refine resX ?_; try exact True.intro))
          all_goals (refine congrArg (fun b => AV.pv (PV.sc (Value.bool b))) ?_; rw [Bool.eq_iff_iff]; simp <;> omega)
      | cons v r =>
        have hk : k < p.vars.length := by have := congrArg List.length hd; simp at this; omega
        rw [hd] at k2
        obtain ⟨hvk, _, hr, hm⟩ := drop_cons hd
        have hl' : (p.vars.map encV)[k]? = some (cV v) := by rw [List.getElem?_map, hvk]; rfl
        have n2 := fun H0 => RVar_run v (hzv v hm) H0
        have n3 := fun H0 => RFind_run p.vars v.name (by omega) H0
        rw [oneR] at k2
        simp only [encV_eq] at n2
        cases hn2 : varB v with
        | false =>
          rw [hn2] at n2
          have hff : oneR p.vars p.vars 0 = false := by rw [k2, hn2]; simp
          rw [hff, Bool.false_and]
          (have rr1 := dr33_6_X20k; have ww1 := hl'; have cc1 := fun z1 => n2 z1; have cc2 := fun z1 => n3 z1; refine wkO ?_; clear rr1 ww1 cc1 cc2; (repeat' first | exact True.intro | refine Lf.mk ?_ ?_); all_goals intro hP)
          (refine resX ?_; try exact True.intro)
        | true =>
          rw [hn2] at n2
          generalize hfv : findV p.vars v.name 0 = f at k2 n3
          by_cases hfk : f = k
          · subst hfk
            (have rr1 := dr33_6_X20k; have ww1 := hl'; have ww2 := hw; have cc1 := fun z1 => n2 z1; have cc2 := fun z1 => n3 z1; refine wkO ?_; clear rr1 ww1 ww2 cc1 cc2; (repeat' first | exact True.intro | refine Lf.mk ?_ ?_); all_goals intro hP)
            all_goals (refine ⟨k + 1, by omega, ⟨by omega, k2.trans (by rw [hn2, decide_eq_true rfl, hr, Bool.true_and, Bool.true_and])⟩, by (refine fgtX ?_; try exact True.intro)⟩)
          · have hff : oneR p.vars p.vars 0 = false := by rw [k2, decide_eq_false hfk]; simp
            rw [hff, Bool.false_and]
            (have rr1 := dr33_6_X20k; have ww1 := hl'; have ww2 := hw; have cc1 := fun z1 => n2 z1; have cc2 := fun z1 => n3 z1; refine wkO ?_; clear rr1 ww1 ww2 cc1 cc2; (repeat' first | exact True.intro | refine Lf.mk ?_ ?_); all_goals intro hP)
            all_goals ((refine resX ?_; try exact True.intro))
  · have hr : validB p = false := by
      unfold validB
      by_cases h : 1 ≤ p.vars.length
      · rw [decide_eq_false (show ¬ p.vars.length ≤ 12 by omega)]; simp
      · rw [decide_eq_false h]; simp
    rw [hr]
    clear hr
    cases hnm : nameB p.name
    all_goals
      rw [hnm] at n1
      (refine ARun.intro Tryz.func33 rfl Tryz.call33 Tryz.ntmps33 Tryz.results33 ?_; simp only [List.length_cons, List.length_nil, List.length_map, Nat.reduceAdd, Nat.reduceSub, List.replicate_succ, List.replicate_zero, List.cons_append, List.nil_append])
      (have rr1 := dr33_6_X20k; have cc1 := fun z1 => n1 z1; refine wkO ?_; clear rr1 cc1; (repeat' first | exact True.intro | refine Lf.mk ?_ ?_); all_goals intro hP)
      all_goals ((refine resX ?_; try exact True.intro))
theorem flat_run (e : Ex) : ∀ (d : Int) (H0 : List AObj), 0 ≤ d → d ≤ 1000000 → ARun Tryz.prog 47 [.ag (cE e), .i d] H0 (.ret (.b (flatE e d)) H0) := by
  induction e using Ex.ind with
  | h e ih =>
    intro d H0 hd0 hd1
    rw [flatE_eq]
    by_cases h0 : d = 0
    · subst h0
      (refine ARun.intro Tryz.func47 rfl Tryz.call47 Tryz.ntmps47 Tryz.results47 ?_; simp only [List.length_cons, List.length_nil, List.length_map, Nat.reduceAdd, Nat.reduceSub, List.replicate_succ, List.replicate_zero, List.cons_append, List.nil_append])
      (refine wk ?_; (repeat' first | exact True.intro | refine Lf.mk ?_ ?_); all_goals intro hP)
      (refine resX ?_; try exact True.intro)
    · rw [decide_eq_true h0, Bool.true_and]
      (refine ARun.intro Tryz.func47 rfl Tryz.call47 Tryz.ntmps47 Tryz.results47 ?_; simp only [List.length_cons, List.length_nil, List.length_map, Nat.reduceAdd, Nat.reduceSub, List.replicate_succ, List.replicate_zero, List.cons_append, List.nil_append])
      refine awp_len_agg 0 3 rfl rfl fun hlen => ?_
      rw [List.length_map] at hlen
      (refine wkO ?_; (repeat' first | exact True.intro | refine Lf.mk ?_ ?_); all_goals intro hP)
      refine awp_loop_ind (σ := Nat) (fun k => e.kids.length - k) (fun k => k ≤ e.kids.length ∧ flatEL e.kids (d - 1) = flatEL (e.kids.drop k) (d - 1))
        (fun k => (.any :: .i d :: .p H0.length 0 :: .any :: .any :: .i k :: .any :: .any :: .any :: .any :: .any :: .any :: .any :: .any :: .any :: .any :: .any :: .any :: .any :: .any :: .any :: .any :: .any :: .any :: []))
        (fun k => H0 ++ [.cells 33 [.i e.op, .i e.n, .i e.unit, .rs 4 (e.kids.map encE)]]) 0 ⟨by omega, by simp⟩ (by (refine fgtX ?_; try exact True.intro)) ?_
      rintro i ⟨h2, h4⟩
      have hw2 : IntKind.i64.wrap (d - 1) = d - 1 := by rw [wrap_of (by omega) (by omega)]
      cases hr : e.kids.drop i with
      | nil =>
        have hlt := drop_nil hr
        rw [hr, flatEL] at h4
        (have ww1 := hlt; refine wk ?_; clear ww1; (repeat' first | exact True.intro | refine Lf.mk ?_ ?_); all_goals intro hP)
        (refine resX ?_; try exact True.intro)
        rw [h4]
      | cons k rest =>
        obtain ⟨hk, hlt, hd, hm⟩ := drop_cons hr
        have hw : IntKind.i64.wrap ((i : Int) + 1) = ((i + 1 : Nat) : Int) := by rw [wrap_of (by omega) (by omega)]; omega
        have hk' : (e.kids.map encE)[i]? = some (cE k) := by rw [List.getElem?_map, hk, Option.map_some, encE_eq]
        rw [hr, flatEL] at h4
        have c := fun H0 => ih k hm (d - 1) H0 (by omega) (by omega)
        cases hf : flatE k (d - 1) with
        | true =>
          rw [hf] at c
          (have ww1 := hlt; have ww2 := hk'; have ww3 := hw; have ww4 := hw2; have cc1 := fun z1 => c z1; refine wk ?_; clear ww1 ww2 ww3 ww4 cc1; (repeat' first | exact True.intro | refine Lf.mk ?_ ?_); all_goals intro hP)
          refine ⟨i + 1, by omega, ⟨by omega, by rw [hd, h4, hf, Bool.true_and]⟩, ?_⟩
          (refine fgtX ?_; try exact True.intro)
        | false =>
          rw [hf] at c
          (have ww1 := hlt; have ww2 := hk'; have ww3 := hw; have ww4 := hw2; have cc1 := fun z1 => c z1; refine wk ?_; clear ww1 ww2 ww3 ww4 cc1; (repeat' first | exact True.intro | refine Lf.mk ?_ ?_); all_goals intro hP)
          (refine resX ?_; try exact True.intro)
          rw [h4, hf, Bool.false_and]
theorem fsize_run : ∀ (N : Nat) (l : List St), totL l ≤ N → ∀ (most deep : Int) (H0 : List AObj), -1000000 ≤ most → most ≤ 100000 → 0 ≤ deep → deep ≤ 1000000 →
    ARun Tryz.prog 29 [.rs 13 (l.map encS), .i most, .i deep] H0 (.ret (.i (szL l most deep 0)) H0) := by
  intro N
  induction N with
  | zero =>
    intro l hN most deep H0 _ _ _ _
    have hl : l = [] := by have := len_totL l; exact List.eq_nil_of_length_eq_zero (by omega)
    subst hl
    by_cases hm : 0 ≤ most
    all_goals
      (refine ARun.intro Tryz.func29 rfl Tryz.call29 Tryz.ntmps29 Tryz.results29 ?_; simp only [List.length_cons, List.length_nil, List.length_map, Nat.reduceAdd, Nat.reduceSub, List.replicate_succ, List.replicate_zero, List.cons_append, List.nil_append])
      (refine wkO ?_; (repeat' first | exact True.intro | refine Lf.mk ?_ ?_); all_goals intro hP)
      refine awp_loop 1 ?_
      (refine wkO ?_; (repeat' first | exact True.intro | refine Lf.mk ?_ ?_); all_goals intro hP)
      (refine resX ?_; try exact True.intro)
      all_goals simp [szL]
  | succ N ihN =>
    intro l hN most deep H0 m0 m1 d0 d1
    (refine ARun.intro Tryz.func29 rfl Tryz.call29 Tryz.ntmps29 Tryz.results29 ?_; simp only [List.length_cons, List.length_nil, List.length_map, Nat.reduceAdd, Nat.reduceSub, List.replicate_succ, List.replicate_zero, List.cons_append, List.nil_append])
    refine awp_len 0 rfl fun hlen => ?_
    rw [List.length_map] at hlen
    (refine wk ?_; (repeat' first | exact True.intro | refine Lf.mk ?_ ?_); all_goals intro hP)
    refine awp_loop_ind (σ := Nat × Int) (fun s => l.length - s.1) (fun s => s.1 ≤ l.length ∧ 0 ≤ s.2 ∧ (s.2 ≤ 0 ∨ s.2 ≤ 3 * most + 3) ∧ szL (l.drop s.1) most deep s.2 = szL l most deep 0)
      (fun s => (.rs 13 (l.map encS) :: .i most :: .i deep :: .any :: .any :: .any :: .any :: .i s.2 :: .i s.1 :: .any :: .any :: .any :: .any :: .any :: .any :: .any :: .any :: .any :: .any :: .any :: .any :: .any :: .any :: .any :: .any :: .any :: .any :: .any :: .any :: .any :: .any :: .any :: .any :: .any :: .any :: .any :: .any :: .any :: .any :: .any :: .any :: .any :: .any :: .any :: .any :: .any :: .any :: .any :: .any :: .any :: .any :: .any :: .any :: .any :: .any :: .any :: .any :: .any :: .any :: .any :: .any :: .any :: .any :: .any :: .any :: .any :: .any :: .any :: .any :: .any :: .any :: .any :: .any :: .any :: .any :: .any :: .any :: .any :: .any :: .any :: .any :: .any :: .any :: .any :: .any :: .any :: .any :: []))
      (fun s => H0) (0, 0) ⟨Nat.zero_le _, by omega, .inl (by omega), rfl⟩ (by (refine fgtX ?_; try exact True.intro)) ?_
    rintro ⟨i, n⟩ ⟨h1, h2, h3, h4⟩
    simp only at h1 h2 h3 h4 ⊢
    cases hr : l.drop i with
    | nil =>
      have hlt := drop_nil hr
      rw [hr, szL] at h4
      (have ww1 := hlt; refine wk ?_; clear ww1; (repeat' first | exact True.intro | refine Lf.mk ?_ ?_); all_goals intro hP)
      (refine resX ?_; try exact True.intro)
      rw [h4]
    | cons s rest =>
      obtain ⟨hk, hlt, hd, hm⟩ := drop_cons hr
      have hw : IntKind.i64.wrap ((i : Int) + 1) = ((i + 1 : Nat) : Int) := by rw [wrap_of (by omega) (by omega)]; omega
      have hk' : (l.map encS)[i]? = some (cS s) := by rw [List.getElem?_map, hk, Option.map_some, encS_eq]
      have hmm := totL_mem hm
      rw [tot_eq] at hmm
      rw [hr, szL] at h4
      by_cases hnm : n ≤ most
      · rw [if_pos hnm] at h4
        have fa := fun H0 => flat_run s.a 200 H0 (by omega) (by omega)
        have fb := fun H0 => flat_run s.b 200 H0 (by omega) (by omega)
        by_cases hcut : deep = 0 ∨ flatE s.a 200 = false ∨ flatE s.b 200 = false
        · rw [if_pos hcut] at h4
          have hwm : IntKind.i64.wrap (most + 1) = most + 1 := wrap_of (by omega) (by omega)
          rcases hcut with hc | hc | hc
          · (have ww1 := hlt; have ww2 := hk'; have ww3 := hnm; have ww4 := hc; have ww5 := hwm; refine wk ?_; clear ww1 ww2 ww3 ww4 ww5; (repeat' first | exact True.intro | refine Lf.mk ?_ ?_); all_goals intro hP)
            (refine resX ?_; try exact True.intro)
            rw [h4]
          · rw [hc] at fa
            by_cases hd0 : deep = 0
            · (have ww1 := hlt; have ww2 := hk'; have ww3 := hnm; have ww4 := hd0; have ww5 := hwm; refine wk ?_; clear ww1 ww2 ww3 ww4 ww5; (repeat' first | exact True.intro | refine Lf.mk ?_ ?_); all_goals intro hP)
              (refine resX ?_; try exact True.intro)
              rw [h4]
            · have hd0' : (deep == 0) = false := by simpa using hd0
              (have ww1 := hlt; have ww2 := hk'; have ww3 := hnm; have ww4 := hd0'; have ww5 := hwm; have cc1 := fun z1 => fa z1; refine wk ?_; clear ww1 ww2 ww3 ww4 ww5 cc1; (repeat' first | exact True.intro | refine Lf.mk ?_ ?_); all_goals intro hP)
              (refine resX ?_; try exact True.intro)
              rw [h4]
          · rw [hc] at fb
            by_cases hd0 : deep = 0
            · (have ww1 := hlt; have ww2 := hk'; have ww3 := hnm; have ww4 := hd0; have ww5 := hwm; refine wk ?_; clear ww1 ww2 ww3 ww4 ww5; (repeat' first | exact True.intro | refine Lf.mk ?_ ?_); all_goals intro hP)
              (refine resX ?_; try exact True.intro)
              rw [h4]
            · have hd0' : (deep == 0) = false := by simpa using hd0
              cases hfa : flatE s.a 200 with
              | false =>
                rw [hfa] at fa
                (have ww1 := hlt; have ww2 := hk'; have ww3 := hnm; have ww4 := hd0'; have ww5 := hwm; have cc1 := fun z1 => fa z1; refine wk ?_; clear ww1 ww2 ww3 ww4 ww5 cc1; (repeat' first | exact True.intro | refine Lf.mk ?_ ?_); all_goals intro hP)
                (refine resX ?_; try exact True.intro)
                rw [h4]
              | true =>
                rw [hfa] at fa
                (have ww1 := hlt; have ww2 := hk'; have ww3 := hnm; have ww4 := hd0'; have ww5 := hwm; have cc1 := fun z1 => fa z1; have cc2 := fun z1 => fb z1; refine wk ?_; clear ww1 ww2 ww3 ww4 ww5 cc1 cc2; (repeat' first | exact True.intro | refine Lf.mk ?_ ?_); all_goals intro hP)
                (refine resX ?_; try exact True.intro)
                rw [h4]
        · rw [if_neg hcut] at h4
          have hd0 : ¬ deep = 0 := fun h => hcut (.inl h)
          have hfa : flatE s.a 200 = true := by cases h : flatE s.a 200 with
            | true => rfl
            | false => exact absurd (.inr (.inl h)) hcut
          have hfb : flatE s.b 200 = true := by cases h : flatE s.b 200 with
            | true => rfl
            | false => exact absurd (.inr (.inr h)) hcut
          have hd0' : (deep == 0) = false := by simpa using hd0
          rw [hfa] at fa
          rw [hfb] at fb
          have za := fun H0 => Size_run s.a most H0 (by omega) (by omega)
          have zb := fun H0 => Size_run s.b most H0 (by omega) (by omega)
          have qa := size_cap s.a most (by omega)
          have qb := size_cap s.b most (by omega)
          rw [szS_eq] at h4
          generalize size s.a most = ka at *
          generalize size s.b most = kb at *
          have q1 := szL_key s.thn (most - (n + 1 + ka + kb)) (deep - 1) 0 (by omega)
          have c1 := fun H0 => ihN s.thn (by omega) (most - (n + 1 + ka + kb)) (deep - 1) H0 (by omega) (by omega) (by omega) (by omega)
          generalize szL s.thn (most - (n + 1 + ka + kb)) (deep - 1) 0 = r1 at *
          have q2 := szL_key s.els (most - (n + 1 + ka + kb + r1)) (deep - 1) 0 (by omega)
          have c2 := fun H0 => ihN s.els (by omega) (most - (n + 1 + ka + kb + r1)) (deep - 1) H0 (by omega) (by omega) (by omega) (by omega)
          generalize szL s.els (most - (n + 1 + ka + kb + r1)) (deep - 1) 0 = r2 at *
          have w1 : IntKind.i64.wrap (n + 1) = n + 1 := wrap_of (by omega) (by omega)
          have w2 : IntKind.i64.wrap (n + 1 + ka) = n + 1 + ka := wrap_of (by omega) (by omega)
          have w3 : IntKind.i64.wrap (n + 1 + ka + kb) = n + 1 + ka + kb := wrap_of (by omega) (by omega)
          have w4 : IntKind.i64.wrap (most - (n + 1 + ka + kb)) = most - (n + 1 + ka + kb) := wrap_of (by omega) (by omega)
          have w5 : IntKind.i64.wrap (n + 1 + ka + kb + r1) = n + 1 + ka + kb + r1 := wrap_of (by omega) (by omega)
          have w6 : IntKind.i64.wrap (most - (n + 1 + ka + kb + r1)) = most - (n + 1 + ka + kb + r1) := wrap_of (by omega) (by omega)
          have w7 : IntKind.i64.wrap (n + 1 + ka + kb + r1 + r2) = n + 1 + ka + kb + r1 + r2 := wrap_of (by omega) (by omega)
          have w8 : IntKind.i64.wrap (deep - 1) = deep - 1 := wrap_of (by omega) (by omega)
          (have ww1 := hlt; have ww2 := hk'; have ww3 := hnm; have ww4 := hd0'; have ww5 := hw; have ww6 := w1; have ww7 := w2; have ww8 := w3; have ww9 := w4; have ww10 := w5; have ww11 := w6; have ww12 := w7; have ww13 := w8; have cc1 := fun z1 => fa z1; have cc2 := fun z1 => fb z1; have cc3 := fun z1 => za z1; have cc4 := fun z1 => zb z1; have cc5 := fun z1 => c1 z1; have cc6 := fun z1 => c2 z1; refine wk ?_; clear ww1 ww2 ww3 ww4 ww5 ww6 ww7 ww8 ww9 ww10 ww11 ww12 ww13 cc1 cc2 cc3 cc4 cc5 cc6; (repeat' first | exact True.intro | refine Lf.mk ?_ ?_); all_goals intro hP)
          refine awp_drawnR_k (id := 7) [8, 16] [] [.win [0, 1, 2], .win [0, 1, 2], .win [0], .win [0], .win [0], .win [0], .win [0], .win [0], .eff 0, .win [1, 2], .win [0, 1], .win [0, 1], .win [0, 1], .win [0, 1], .win [0, 1], .win [0, 1], .eff 1, .win [2], .win [2]] 2 [7] rfl (by as_aux_lemma => kernel_rfl) fun Kn Kp hn hp => ?_
          (have ww1 := hlt; have ww2 := hk'; have ww3 := hnm; have ww4 := hd0'; have ww5 := hw; have ww6 := w1; have ww7 := w2; have ww8 := w3; have ww9 := w4; have ww10 := w5; have ww11 := w6; have ww12 := w7; have ww13 := w8; have cc1 := fun z1 => fa z1; have cc2 := fun z1 => fb z1; have cc3 := fun z1 => za z1; have cc4 := fun z1 => zb z1; have cc5 := fun z1 => c1 z1; have cc6 := fun z1 => c2 z1; refine wkS ?_; clear ww1 ww2 ww3 ww4 ww5 ww6 ww7 ww8 ww9 ww10 ww11 ww12 ww13 cc1 cc2 cc3 cc4 cc5 cc6; (repeat' first | exact True.intro | refine Lf.mk ?_ ?_); all_goals intro hP)
          refine hn _ _ ?_
          clear hn hp Kn Kp
          (have ww1 := hlt; have ww2 := hk'; have ww3 := hnm; have ww4 := hd0'; have ww5 := hw; have ww6 := w1; have ww7 := w2; have ww8 := w3; have ww9 := w4; have ww10 := w5; have ww11 := w6; have ww12 := w7; have ww13 := w8; have cc1 := fun z1 => fa z1; have cc2 := fun z1 => fb z1; have cc3 := fun z1 => za z1; have cc4 := fun z1 => zb z1; have cc5 := fun z1 => c1 z1; have cc6 := fun z1 => c2 z1; refine wkS ?_; clear ww1 ww2 ww3 ww4 ww5 ww6 ww7 ww8 ww9 ww10 ww11 ww12 ww13 cc1 cc2 cc3 cc4 cc5 cc6; (repeat' first | exact True.intro | refine Lf.mk ?_ ?_); all_goals intro hP)
          refine ⟨(i + 1, n + 1 + ka + kb + r1 + r2), by simp only; omega, ⟨by simp only; omega, by simp only; omega, by simp only; omega, by simp only; rw [hd, ← h4]⟩, ?_⟩
          (refine fgtX ?_; try exact True.intro)
      · rw [if_neg hnm] at h4
        (have ww1 := hlt; have ww2 := hnm; refine wk ?_; clear ww1 ww2; (repeat' first | exact True.intro | refine Lf.mk ?_ ?_); all_goals intro hP)
        (refine resX ?_; try exact True.intro)
        rw [h4]
theorem RFew5_run (p : Prg) (hl : p.vars.length ≤ 2000000) (hz : ∀ v ∈ p.vars, v.name.size ≤ 2000000) (hzn : p.name.size ≤ 2000000) (H0 : List AObj) : ARun Tryz.prog 10 [.ag (cP p)] H0 (.ret (.b (fewB5 p)) H0) := by
  have s0 := fun H0 => fsize_run _ p.on0 (Nat.le_refl _) 3000 200 H0 (by omega) (by omega) (by omega) (by omega)
  have s1 := fun H0 => fsize_run _ p.on1 (Nat.le_refl _) 3000 200 H0 (by omega) (by omega) (by omega) (by omega)
  have s2 := fun H0 => fsize_run _ p.on2 (Nat.le_refl _) 3000 200 H0 (by omega) (by omega) (by omega) (by omega)
  have s3 := fun H0 => fsize_run _ p.on3 (Nat.le_refl _) 3000 200 H0 (by omega) (by omega) (by omega) (by omega)
  have s4 := fun H0 => fsize_run _ p.on4 (Nat.le_refl _) 3000 200 H0 (by omega) (by omega) (by omega) (by omega)
  have k0 := szL_key p.on0 3000 200 0 (by omega)
  have k1 := szL_key p.on1 3000 200 0 (by omega)
  have k2 := szL_key p.on2 3000 200 0 (by omega)
  have k3 := szL_key p.on3 3000 200 0 (by omega)
  have k4 := szL_key p.on4 3000 200 0 (by omega)
  unfold fewB5
  generalize szL p.on0 3000 200 0 = z0 at *
  generalize szL p.on1 3000 200 0 = z1 at *
  generalize szL p.on2 3000 200 0 = z2 at *
  generalize szL p.on3 3000 200 0 = z3 at *
  generalize szL p.on4 3000 200 0 = z4 at *
  (refine ARun.intro Tryz.func10 rfl Tryz.call10 Tryz.ntmps10 Tryz.results10 ?_; simp only [List.length_cons, List.length_nil, List.length_map, Nat.reduceAdd, Nat.reduceSub, List.replicate_succ, List.replicate_zero, List.cons_append, List.nil_append])
  (refine wk ?_; (repeat' first | exact True.intro | refine Lf.mk ?_ ?_); all_goals intro hP)
  refine awp_loop_ind (σ := Nat) (fun k => p.vars.length - k) (fun k => k ≤ p.vars.length ∧ p.vars.all (fun v => decide (v.name.size ≤ 40)) = (p.vars.drop k).all (fun v => decide (v.name.size ≤ 40)))
    (fun k => (.any :: .p H0.length 0 :: .any :: .i k :: .any :: .any :: .any :: .any :: .any :: .any :: .any :: .any :: .any :: .any :: .any :: .any :: .any :: .any :: .any :: .any :: .any :: .any :: .any :: .any :: .any :: .any :: .any :: .any :: .any :: .any :: .any :: .any :: .any :: .any :: .any :: .any :: .any :: .any :: .any :: .any :: .any :: .any :: .any :: .any :: .any :: .any :: []))
    (fun k => H0 ++ [.cells 26 ((cP p).map AV.pv)]) 0 ⟨Nat.zero_le _, by simp⟩ (by (refine fgtX ?_; try exact True.intro)) ?_
  rintro k ⟨k1', k2'⟩
  cases hd : p.vars.drop k with
  | nil =>
    have hlt := drop_nil hd
    rw [hd] at k2'
    rw [k2', List.all_nil, Bool.true_and]
    have w1 : IntKind.i64.wrap (0 + z0) = z0 := by rw [wrap_of (by omega) (by omega)]; omega
    have w2 : IntKind.i64.wrap (z0 + z1) = z0 + z1 := wrap_of (by omega) (by omega)
    have w3 : IntKind.i64.wrap (z0 + z1 + z2) = z0 + z1 + z2 := wrap_of (by omega) (by omega)
    have w4 : IntKind.i64.wrap (z0 + z1 + z2 + z3) = z0 + z1 + z2 + z3 := wrap_of (by omega) (by omega)
    have w5 : IntKind.i64.wrap (z0 + z1 + z2 + z3 + z4) = z0 + z1 + z2 + z3 + z4 := wrap_of (by omega) (by omega)
    have lw := (List.length_map encV : (p.vars.map encV).length = p.vars.length)
    (have ww1 := hlt; have ww2 := lw; refine wk ?_; clear ww1 ww2; (repeat' first | exact True.intro | refine Lf.mk ?_ ?_); all_goals intro hP)
    refine awp_loop 6 ?_
    (have ww1 := w1; have ww2 := w2; have ww3 := w3; have ww4 := w4; have ww5 := w5; have ww6 := lw; have cc1 := fun z1 => s0 z1; have cc2 := fun z1 => s1 z1; have cc3 := fun z1 => s2 z1; have cc4 := fun z1 => s3 z1; have cc5 := fun z1 => s4 z1; refine wkO ?_; clear ww1 ww2 ww3 ww4 ww5 ww6 cc1 cc2 cc3 cc4 cc5; (repeat' first | exact True.intro | refine Lf.mk ?_ ?_); all_goals intro hP)
    all_goals ((refine resX ?_; try exact True.intro))
    all_goals (refine congrArg (fun b => AV.pv (PV.sc (Value.bool b))) ?_; rw [Bool.eq_iff_iff]; simp <;> omega)
  | cons v r =>
    obtain ⟨hvk, hlt, hr, hm⟩ := drop_cons hd
    have hw : IntKind.i64.wrap ((k : Int) + 1) = ((k + 1 : Nat) : Int) := by rw [wrap_of (by omega) (by omega)]; omega
    have hl' : (p.vars.map encV)[k]? = some (cV v) := by rw [List.getElem?_map, hvk]; rfl
    have hzv := hz v hm
    rw [hd, List.all_cons, ← hr] at k2'
    have lw := (List.length_map encV : (p.vars.map encV).length = p.vars.length)
    by_cases h40 : v.name.size ≤ 40
    · rw [decide_eq_true h40, Bool.true_and] at k2'
      (have ww1 := lw; have ww2 := hl'; have ww3 := hw; refine wkO ?_; clear ww1 ww2 ww3; (repeat' first | exact True.intro | refine Lf.mk ?_ ?_); all_goals intro hP)
      all_goals first
        | (refine ⟨k + 1, by omega, ⟨by omega, k2'⟩, ?_⟩; (refine fgtX ?_; try exact True.intro))
        | (exfalso; omega)
    · rw [decide_eq_false h40, Bool.false_and] at k2'
      rw [k2', Bool.false_and]
      (have ww1 := lw; have ww2 := hl'; have ww3 := hw; refine wkO ?_; clear ww1 ww2 ww3; (repeat' first | exact True.intro | refine Lf.mk ?_ ?_); all_goals intro hP)
      (refine resX ?_; try exact True.intro)
theorem dr20_6_X30q : Drawn Tryz.prog 6 (regOps 6 ((Tryz.f20.body).getD .skip)) [] [] [.win [0], .win [0], .win [0], .win [0], .win [0], .win [0], .win [0], .win [0], .win [0], .win [0], .win [0], .win [0], .win [0], .win [0], .win [0], .win [0], .win [0], .win [0], .win [0], .win [0], .win [0], .win [0]] 0 [] := ⟨rfl, by as_aux_lemma => kernel_rfl⟩
theorem RState8_run (vs : List Vr) (st : List Int) (h1 : vs.length ≤ 2000000) (H0 : List AObj) :
    ARun Tryz.prog 20 [.rs 5 (vs.map encV), .rs 1 (rI st)] H0 (.ret (.b (stIn vs st)) H0) := by
  have ls : (rI st).length = st.length := List.length_map _
  by_cases hlen : st.length = vs.length
  · have hlb : ((st.length : Int) != (vs.length : Int)) = false := by simp [hlen]
    (refine ARun.intro Tryz.func20 rfl Tryz.call20 Tryz.ntmps20 Tryz.results20 ?_; simp only [List.length_cons, List.length_nil, List.length_map, Nat.reduceAdd, Nat.reduceSub, List.replicate_succ, List.replicate_zero, List.cons_append, List.nil_append])
    (have rr1 := dr20_6_X30q; have ww1 := ls; have ww2 := hlb; refine wk ?_; clear rr1 ww1 ww2; (repeat' first | exact True.intro | refine Lf.mk ?_ ?_); all_goals intro hP)
    refine awp_loop_ind (σ := Nat) (fun k => vs.length - k) (fun k => k ≤ vs.length ∧ stIn vs st = stIn (vs.drop k) (st.drop k))
      (fun k => (.rs 5 (vs.map encV) :: .rs 1 (rI st) :: .any :: .any :: .any :: .i k :: .any :: .any :: .any :: .any :: .any :: .any :: .any :: .any :: .any :: .any :: .any :: .any :: .any :: .any :: .any :: .any :: .any :: .any :: .any :: .any :: .any :: .any :: .any :: .any :: .any :: .any :: .any :: .any :: .any :: .any :: .any :: .any :: .any :: [])) (fun k => H0) 0 ⟨Nat.zero_le _, rfl⟩ (by (refine fgtX ?_; try exact True.intro)) ?_
    rintro k ⟨k1, k2⟩
    have hw : IntKind.i64.wrap ((k : Int) + 1) = ((k + 1 : Nat) : Int) := by rw [wrap_of (by omega) (by omega)]; omega
    cases hr : vs.drop k with
    | nil =>
      have hlt := drop_nil hr
      have hk : vs.length ≤ k := List.drop_eq_nil_iff.1 hr
      have hst : stIn vs st = true := by rw [k2, hr, List.drop_eq_nil_iff.2 (by omega)]; rfl
      rw [hst]
      (have rr1 := dr20_6_X30q; have ww1 := hlt; refine wk ?_; clear rr1 ww1; (repeat' first | exact True.intro | refine Lf.mk ?_ ?_); all_goals intro hP)
      (refine resX ?_; try exact True.intro)
    | cons v rest =>
      obtain ⟨hvk, hlt, hd, hm⟩ := drop_cons hr
      have hv' : (vs.map encV)[k]? = some (cV v) := by rw [List.getElem?_map, hvk]; rfl
      have hks : k < st.length := by omega
      obtain ⟨n, hn2⟩ : ∃ n, st[k]? = some n := ⟨_, List.getElem?_eq_getElem hks⟩
      have hs2 : (rI st)[k]? = some [.i n] := by rw [List.getElem?_map, hn2]; rfl
      have hsd : st.drop k = n :: st.drop (k + 1) := by rw [List.drop_eq_getElem_cons hks]; congr 1; rw [List.getElem?_eq_getElem hks] at hn2; exact Option.some.inj hn2
      have hlt2 : (k : Int) < (st.length : Int) := by omega
      rw [hr, hsd] at k2
      simp only [stIn] at k2
      by_cases hin : v.low ≤ n ∧ n ≤ v.high
      · rw [decide_eq_true hin, Bool.true_and] at k2
        have p1 : ¬ n < v.low := by omega
        have p2 : ¬ v.high < n := by omega
        (have rr1 := dr20_6_X30q; have ww1 := hlt; have ww2 := hv'; have ww3 := hw; have ww4 := hs2; have ww5 := hlt2; have ww6 := p1; have ww7 := p2; have ww8 := ls; refine wk ?_; clear rr1 ww1 ww2 ww3 ww4 ww5 ww6 ww7 ww8; (repeat' first | exact True.intro | refine Lf.mk ?_ ?_); all_goals intro hP)
        refine ⟨k + 1, by omega, ⟨by omega, by rw [k2, hd]⟩, ?_⟩
        (refine fgtX ?_; try exact True.intro)
      · rw [decide_eq_false hin, Bool.false_and] at k2
        rw [k2]
        by_cases p1 : n < v.low
        · (have rr1 := dr20_6_X30q; have ww1 := hlt; have ww2 := hv'; have ww3 := hw; have ww4 := hs2; have ww5 := hlt2; have ww6 := p1; have ww7 := ls; refine wk ?_; clear rr1 ww1 ww2 ww3 ww4 ww5 ww6 ww7; (repeat' first | exact True.intro | refine Lf.mk ?_ ?_); all_goals intro hP)
          (refine resX ?_; try exact True.intro)
        · have p2 : v.high < n := by omega
          (have rr1 := dr20_6_X30q; have ww1 := hlt; have ww2 := hv'; have ww3 := hw; have ww4 := hs2; have ww5 := hlt2; have ww6 := p1; have ww7 := p2; have ww8 := ls; refine wk ?_; clear rr1 ww1 ww2 ww3 ww4 ww5 ww6 ww7 ww8; (repeat' first | exact True.intro | refine Lf.mk ?_ ?_); all_goals intro hP)
          (refine resX ?_; try exact True.intro)
  · have hlb : ((st.length : Int) != (vs.length : Int)) = true := by simp; omega
    have hst : stIn vs st = false := by
      cases h : stIn vs st with
      | false => rfl
      | true => exact absurd (stIn_len h) hlen
    rw [hst]
    (refine ARun.intro Tryz.func20 rfl Tryz.call20 Tryz.ntmps20 Tryz.results20 ?_; simp only [List.length_cons, List.length_nil, List.length_map, Nat.reduceAdd, Nat.reduceSub, List.replicate_succ, List.replicate_zero, List.cons_append, List.nil_append])
    (have rr1 := dr20_6_X30q; have ww1 := ls; have ww2 := hlb; refine wk ?_; clear rr1 ww1 ww2; (repeat' first | exact True.intro | refine Lf.mk ?_ ?_); all_goals intro hP)
    (refine resX ?_; try exact True.intro)
theorem PM.fin1 {p : Prg} (h : PM p) : fine1 p := by
  have := okP_of h.w
  have := h.l
  unfold okP at *
  unfold fine1
  omega
theorem PM.rvalid {p : Prg} (h : PM p) (H0 : List AObj) : ARun Tryz.prog 33 [.ag (cP p)] H0 (.ret (.b (validB p)) H0) := RValid_run p h.fin1 h.z h.zv H0
theorem dr25_5_X30r : Drawn Tryz.prog 5 (regOps 5 ((Tryz.f25.body).getD .skip)) [4, 5] [] [.win [0, 1], .win [0, 1], .win [0, 1], .win [0, 1], .eff 0, .eff 1] 2 [] := ⟨rfl, by as_aux_lemma => kernel_rfl⟩
def dE8 : Ex := .mk 0 0 0 []
abbrev w8 : Ex := .mk 2 0 0 []
/-- The example. -/
def pEx8 : Prg := ⟨⟨#[99]⟩, [⟨⟨#[119]⟩, 1, 1, 9, 2⟩], [.mk 1 0 0 (.mk 9 0 0 [.mk 4 0 0 [w8, .mk 3 0 0 []], .mk 1 9 1 []]) dE8 [] []],
  [.mk 2 0 3 w8 (.mk 1 4 1 []) [.mk 1 0 0 (.mk 7 0 0 [w8, .mk 1 2 0 []]) dE8 [] []] [.mk 1 0 0 (.mk 5 0 0 [w8, .mk 1 1 1 []]) dE8 [] []]], [], [], [], 0, -1⟩
theorem number8_run (n : Int) (H0 : List AObj) : ARun Tryz.prog 28 [.i n] H0 (.ret (.ag (cE (.mk 1 n 1 []))) H0) := by
  show ARun Tryz.prog 28 [.i n] H0 (.ret (.agg [.i 1, .i n, .i 1, .rs 4 []]) H0)
  (refine ARun.intro Tryz.func28 rfl Tryz.call28 Tryz.ntmps28 Tryz.results28 ?_; simp only [List.length_cons, List.length_nil, List.length_map, Nat.reduceAdd, Nat.reduceSub, List.replicate_succ, List.replicate_zero, List.cons_append, List.nil_append])
  (refine wk ?_; (repeat' first | exact True.intro | refine Lf.mk ?_ ?_); all_goals intro hP)
  (refine resC ?_; (repeat' (first | exact True.intro | refine Lf.mk ?_ ?_)))
  (repeat' (first | exact trivial | exact Cv.refl _ | exact Cv.nil (Nat.succ_pos _) | exact PCv.refl _ | exact PCv.nil (Nat.succ_pos _) | refine And.intro ?_ ?_ | refine Cv.agg ?_ | refine Cv.tup ?_ | refine Cv.pv (PCv.rs ?_) | refine PCv.rs ?_))
theorem two8_run (op : Int) (a b : Ex) (H0 : List AObj) : ARun Tryz.prog 27 [.i op, .ag (cE a), .ag (cE b)] H0 (.ret (.ag (cE (.mk op 0 0 [a, b]))) H0) := by
  show ARun Tryz.prog 27 [.i op, .ag (cE a), .ag (cE b)] H0 (.ret (.agg [.i op, .i 0, .i 0, .rs 4 [encE a, encE b]]) H0)
  rw [encE_eq a, encE_eq b]
  (refine ARun.intro Tryz.func27 rfl Tryz.call27 Tryz.ntmps27 Tryz.results27 ?_; simp only [List.length_cons, List.length_nil, List.length_map, Nat.reduceAdd, Nat.reduceSub, List.replicate_succ, List.replicate_zero, List.cons_append, List.nil_append])
  (refine wk ?_; (repeat' first | exact True.intro | refine Lf.mk ?_ ?_); all_goals intro hP)
  (refine resC ?_; (repeat' (first | exact True.intro | refine Lf.mk ?_ ?_)))
  (repeat' (first | exact trivial | exact Cv.refl _ | exact Cv.nil (Nat.succ_pos _) | exact PCv.refl _ | exact PCv.nil (Nat.succ_pos _) | refine And.intro ?_ ?_ | refine Cv.agg ?_ | refine Cv.tup ?_ | refine Cv.pv (PCv.rs ?_) | refine PCv.rs ?_))
/-- An expression without parts, as it is written. -/
abbrev lf8 (op n u : Int) : AV := .agg [.i op, .i n, .i u, .pv (.sc (.slice none 0 0))]
theorem lf8_cv (op n u : Int) : Cv (lf8 op n u) (.ag (cE (.mk op n u []))) := by
  show Cv _ (.agg [.i op, .i n, .i u, .rs 4 []])
  (repeat' (first | exact trivial | exact Cv.refl _ | exact Cv.nil (Nat.succ_pos _) | exact PCv.refl _ | exact PCv.nil (Nat.succ_pos _) | refine And.intro ?_ ?_ | refine Cv.agg ?_ | refine Cv.tup ?_ | refine Cv.pv (PCv.rs ?_) | refine PCv.rs ?_))
theorem two8_cv (op : Int) {x y : AV} (a b : Ex) (hx : Cv x (.ag (cE a))) (hy : Cv y (.ag (cE b))) (H0 : List AObj) : ARun Tryz.prog 27 [.i op, x, y] H0 (.ret (.ag (cE (.mk op 0 0 [a, b]))) H0) :=
  (two8_run op a b H0).cv ⟨Cv.refl _, hx, hy, trivial⟩
theorem example8_run (H0 : List AObj) : ARun Tryz.prog 25 [] H0 (.ret (.ag (cP pEx8)) H0) := by
  have c1 := fun H => two8_cv 4 w8 (.mk 3 0 0 []) (lf8_cv 2 0 0) (lf8_cv 3 0 0) H
  have c2 := fun H => two8_run 9 (.mk 4 0 0 [w8, .mk 3 0 0 []]) (.mk 1 9 1 []) H
  have c3 := fun H => two8_cv 7 w8 (.mk 1 2 0 []) (lf8_cv 2 0 0) (lf8_cv 1 2 0) H
  have c4 := fun H => two8_cv 5 w8 (.mk 1 1 1 []) (lf8_cv 2 0 0) (Cv.refl _) H
  have cN := fun n H => number8_run n H
  simp only [lf8, Ex.op, Ex.n, Ex.unit, Ex.kids, List.map_cons, List.map_nil, encE, encEs] at c1 c2 c3 c4 cN
  (refine ARun.intro Tryz.func25 rfl Tryz.call25 Tryz.ntmps25 Tryz.results25 ?_; simp only [List.length_cons, List.length_nil, List.length_map, Nat.reduceAdd, Nat.reduceSub, List.replicate_succ, List.replicate_zero, List.cons_append, List.nil_append])
  (have rr1 := dr25_5_X30r; have cc1 := fun z1 => c1 z1; have cc2 := fun z1 => c2 z1; have cc3 := fun z1 => c3 z1; have cc4 := fun z1 => c4 z1; have cc5 := fun z1 z2 => cN z1 z2; refine wkS ?_; clear rr1 cc1 cc2 cc3 cc4 cc5; (repeat' first | exact True.intro | refine Lf.mk ?_ ?_); all_goals intro hP)
  (refine awp_drawnO_k (id := 6) [3, 5, 7, 10] [] [([3, 5, 7, 10], [0, 1, 2, 3, 4, 5, 6, 7, 8, 9, 10], [.win [0, 1, 2], .win [0, 1, 2], .win [0], .eff 0, .win [0, 1], .eff 1, .win [2], .eff 2, .win [0, 1, 2, 3], .win [3], .eff 3]), ([5, 3, 7, 10], [0, 1, 2, 4, 5, 3, 6, 7, 8, 9, 10], [.win [0, 1, 2], .win [0, 1, 2], .win [0, 1], .eff 1, .win [0], .eff 0, .win [2], .eff 2, .win [0, 1, 2, 3], .win [3], .eff 3])] 4 rfl (by as_aux_lemma => kernel_rfl) fun Kn Kp hn hp => ?_; simp only [List.forall_mem_cons, List.not_mem_nil, false_implies, implies_true, and_true, go_sem, Nat.reduceAdd, Nat.reduceSub, Nat.reduceMul, Nat.reduceLeDiff, Nat.reduceLT, Nat.reduceEqDiff, Int.reduceToNat, Int.reduceAdd, Int.reduceMul, Int.reduceSub, Int.reduceLT, Int.reduceLE, Int.reduceEq, Int.reduceNeg, Int.reduceBEq, Int.reduceBNe, ↓reduceIte, reduceCtorEq, pick])
  (have rr1 := dr25_5_X30r; have cc1 := fun z1 z2 => cN z1 z2; refine wkS ?_; clear rr1 cc1; (repeat' first | exact True.intro | refine Lf.mk ?_ ?_); all_goals intro hP)
  all_goals
    refine hn _ _ ?_
    clear hn hp Kn Kp
    (have rr1 := dr25_5_X30r; refine wkS ?_; clear rr1; (repeat' first | exact True.intro | refine Lf.mk ?_ ?_); all_goals intro hP)
    refine ⟨_, rfl, _, rfl, Fin.pureC 6 ?_⟩
    simp only [List.map_cons, List.map_nil, AV.low, AV.toPV, AV.toPVs, AV.toPVr, getO0, getOk, getS0, getSk, List.getElem?_cons_zero, List.getElem?_cons_succ, Nat.not_lt_zero, if_false, if_true, List.length_cons, List.length_nil, Nat.zero_le, and_self, and_true, true_and, List.drop_zero, List.take_succ_cons, List.take_zero, List.take_nil, Option.map_some, Nat.zero_add, not_lt_k, show ∀ n k : Nat, (n ≤ n + k) = True from fun n k => by simp, Nat.le_refl]
  all_goals
    show Cv _ (.agg (_ :: _ :: _ :: _ :: _ :: _ :: _ :: _ :: _ :: []))
    simp only [pEx8, dE8, List.map_cons, List.map_nil, encS, encSs, encE, encEs, encV, Ex.op, Ex.n, Ex.unit, Ex.kids]
    (repeat' (first | exact trivial | exact Cv.refl _ | exact Cv.nil (Nat.succ_pos _) | exact PCv.refl _ | exact PCv.nil (Nat.succ_pos _) | refine And.intro ?_ ?_ | refine Cv.agg ?_ | refine Cv.tup ?_ | refine Cv.pv (PCv.rs ?_) | refine PCv.rs ?_))
theorem pmEx8 : PM pEx8 := ⟨by decide, by decide, by decide, by decide⟩
theorem frz_ag (ps : List PV) (i sz : Nat) (rows : List (List PV)) : AV.frz i sz rows (.ag ps) = .ag ps := by
  simp only [AV.frz, List.map_map, AV.agg.injEq]
  exact List.map_congr_left fun p _ => by simp only [Function.comp_apply, AV.frz]
theorem PM.mrunF {p : Prg} (h : PM p) (st : List Int) (x : Cal) {id n : Nat} {H : List AObj} (hr : H[id]? = some (.arr 3 1 (nR st))) (hl : st.length = n) :
    ARun Tryz.prog 16 [.ag (cP p), .os id 0 n n, agL x] H (.ret (.tup [.rs 1 (rI (runL (runM p st x))), .i (runE (runM p st x))]) (H.set id .dead)) := by
  refine ARun.frz (t := 3) (sz := 1) (rows := rI st) id hr (h.mrun st x _) ?_
  subst hl
  simp only [List.map_cons, List.map_nil, frz_ag]
  simp only [AV.frz, List.length_map, and_self, if_true, List.map_cons, List.map_nil]
  exact ⟨Cv.refl _, Cv.refl _, Cv.refl _, trivial⟩
theorem Ints_own (a b : List Int) (hl : a.length ≤ 2000000) {id n : Nat} {H : List AObj} (hr : H[id]? = some (.arr 3 1 (nR b))) (hb : b.length = n) :
    ARun Tryz.prog 18 [.rs 1 (rI a), .os id 0 n n] H (.ret (.b (a == b)) H) := by
  refine ARun.lend 2 (Ints_run a b hl []) ?_ rfl
  simp only [List.map_cons, List.map_nil]
  rw [low_row (rows := rI b) hr (by simpa using hb)]
  simp only [AV.low]
  exact ⟨Cv.refl _, Cv.refl _, trivial⟩
theorem gives8_run (w ev ac want e : Int) (hr : (runM pEx8 [w] ⟨ev, ac, 1, 1, 0⟩ = .ok [want] ∧ e = 0) ∨ (runM pEx8 [w] ⟨ev, ac, 1, 1, 0⟩ = .error e ∧ e ≠ 0)) (H0 : List AObj) :
    ARun Tryz.prog 26 [.i w, .i ev, .i ac, .i want, .i e] H0 (.ret (.b true) H0) := by
  have cX := fun H => example8_run H
  have cR := pmEx8.mrunF [w] ⟨ev, ac, 1, 1, 0⟩ (id := H0.length) (n := 1) (H := H0 ++ [.arr 3 1 (nR [w])]) (getO0 _ _ _) rfl
  rcases hr with ⟨hr, rfl⟩ | ⟨hr, he⟩
  · rw [hr] at cR
    have cI := fun (o : AObj) => Ints_own [want] [want] (by simp) (id := H0.length + 1) (n := 1) (H := H0 ++ [o, .arr 3 1 (nR [want])]) (getOk _ _ _) rfl
    rw [show ([want] == [want]) = true by simp] at cI
    simp only [runL, runE, agL, List.map_cons, List.map_nil, pvRows, setO0] at cR cI
    (refine ARun.intro Tryz.func26 rfl Tryz.call26 Tryz.ntmps26 Tryz.results26 ?_; simp only [List.length_cons, List.length_nil, List.length_map, Nat.reduceAdd, Nat.reduceSub, List.replicate_succ, List.replicate_zero, List.cons_append, List.nil_append])
    (have cc1 := fun z1 => cX z1; have cc2 := cR; have cc3 := fun z1 => cI z1; refine wkS ?_; clear cc1 cc2 cc3; (repeat' first | exact True.intro | refine Lf.mk ?_ ?_); all_goals intro hP)
    (refine resX ?_; try exact True.intro)
  · rw [hr] at cR
    simp only [runL, runE, agL, List.map_cons, List.map_nil, pvRows, setO0] at cR
    have he' : (e == 0) = false := by simpa using he
    have he2 : (e != 0) = true := by simpa using he
    have ee : (e == e) = true := by simp
    (refine ARun.intro Tryz.func26 rfl Tryz.call26 Tryz.ntmps26 Tryz.results26 ?_; simp only [List.length_cons, List.length_nil, List.length_map, Nat.reduceAdd, Nat.reduceSub, List.replicate_succ, List.replicate_zero, List.cons_append, List.nil_append])
    repeat' (first | refine awp_seq ?_ | refine awp_block ?_ | refine awp_scope ?_ | ((first | refine awp_region_k fun Kn Kp hn hp => ?_ | refine oge_intro (by assumption) ?_ | (show AWE _ _ _ _ _ _ _ _ _; first | refine awe_intro (cX _) ?_ | refine awe_intro (cR) ?_) | (show AWSF _ _ _ _ _ _ _ _ _ _ _; first | refine awsf_intro (cX _) (fun hrun => ?_) | refine awsf_intro (cR) (fun hrun => ?_)) | (show OGE _ _ _ _ _ _ _; first | refine oge_intro (cX _) ?_ | refine oge_intro (cR) ?_) | (show AWSE _ _ _ _ _ _ _ _ _ _ _; first | refine awse_intro (cX _) (fun hrun => ?_) | refine awse_intro (cR) (fun hrun => ?_)) | (show PGE _ _ _ _ _; first | refine pge_intro (cX _) (fun tm' => ?_) | refine pge_intro (cR) (fun tm' => ?_))) <;> (simp only [go_sem, Nat.reduceAdd, Nat.reduceSub, Nat.reduceMul, Nat.reduceLeDiff, Nat.reduceLT, Nat.reduceEqDiff, Int.reduceToNat, Int.reduceAdd, Int.reduceMul, Int.reduceSub, Int.reduceLT, Int.reduceLE, Int.reduceEq, Int.reduceNeg, Int.reduceBEq, Int.reduceBNe, ↓reduceIte, reduceCtorEq, he', he2, ee, List.map_nil, List.length_nil] <;> try simp (disch := omega) only [wrap_of])) | (refine hn _ _ ?_; clear hn hp Kn Kp) | (refine hp _ _ _ ?_; clear hn hp Kn Kp) | (refine awp_cond rfl (fun hb => ?_) (fun hb => ?_) <;> (try simp only [decide_eq_true_eq, decide_eq_false_iff_not, Bool.not_eq_true', Bool.not_eq_false', Bool.true_eq_false, Bool.false_eq_true, beq_iff_eq, bne_iff_ne, bne_eq_false_iff_eq, beq_eq_false_iff_ne, gt_iff_lt, ge_iff_le, Int.reduceEq, Int.reduceNe, Int.reduceLT, Int.reduceLE, ne_eq, not_true_eq_false, not_false_eq_true] at hb)) | ((first | refine awg_split (fun hb => ?_) (fun hb => ?_) | refine awsg_split (fun hb => ?_) (fun hb => ?_)) <;> have hb0 := hb <;> (try simp only [decide_eq_true_eq, decide_eq_false_iff_not, Bool.not_eq_true', Bool.not_eq_false', Bool.true_eq_false, Bool.false_eq_true, beq_iff_eq, bne_iff_ne, bne_eq_false_iff_eq, beq_eq_false_iff_ne, gt_iff_lt, ge_iff_le, Int.reduceEq, Int.reduceNe, Int.reduceLT, Int.reduceLE, ne_eq, not_true_eq_false, not_false_eq_true] at hb0) <;> (try simp only [beq_true, beq_false, Bool.not_eq_true', Bool.not_eq_false'] at hb) <;> (simp only [go_sem, Nat.reduceAdd, Nat.reduceSub, Nat.reduceMul, Nat.reduceLeDiff, Nat.reduceLT, Nat.reduceEqDiff, Int.reduceToNat, Int.reduceAdd, Int.reduceMul, Int.reduceSub, Int.reduceLT, Int.reduceLE, Int.reduceEq, Int.reduceNeg, Int.reduceBEq, Int.reduceBNe, ↓reduceIte, reduceCtorEq, he', he2, ee, List.map_nil, List.length_nil, hb, hb0] <;> try simp (disch := omega) only [wrap_of])) | (refine And.intro ?_ ?_) | refine awp_skip ?_ | refine awp_ret ?_ | refine awp_exit ?_ | refine awp_label ?_ | refine awloop_step ?_ | (simp only [go_sem, Nat.reduceAdd, Nat.reduceSub, Nat.reduceMul, Nat.reduceLeDiff, Nat.reduceLT, Nat.reduceEqDiff, Int.reduceToNat, Int.reduceAdd, Int.reduceMul, Int.reduceSub, Int.reduceLT, Int.reduceLE, Int.reduceEq, Int.reduceNeg, Int.reduceBEq, Int.reduceBNe, ↓reduceIte, reduceCtorEq, he', he2, ee, List.map_nil, List.length_nil]) | fail)
    (refine resX ?_; try exact True.intro)
abbrev sv8 : Ex := .mk 5 0 0 [.mk 1 0 1 [], .mk 1 7 1 []]
theorem eval8_nil (e : Ex) (r : Except Int Int) (h : evalR [] 0 0 0 0 e = r) (H0 : List AObj) : ARun Tryz.prog 14 [.pv (.sc (.slice none 0 0)), .agg [.i 0, .i 0, .i 0, .i 0], .ag (cE e)] H0 (.ret (.tup [.i (vN r), .i (eN r)]) H0) := by
  subst h
  refine (MEval_run [] (by decide) 0 0 0 0 e H0).cv ⟨?_, Cv.refl _, Cv.refl _, trivial⟩
  (repeat' (first | exact trivial | exact Cv.refl _ | exact Cv.nil (Nat.succ_pos _) | exact PCv.refl _ | exact PCv.nil (Nat.succ_pos _) | refine And.intro ?_ ?_ | refine Cv.agg ?_ | refine Cv.tup ?_ | refine Cv.pv (PCv.rs ?_) | refine PCv.rs ?_))
theorem head8_run (H0 : List AObj) : ARun Tryz.prog 9 [] H0 (.ret (.b true) H0) := by
  have cX := fun H => example8_run H
  have cS := fun H => pmEx8.mstart H
  rw [show startR pEx8 = .ok [2] by kernel_rfl] at cS
  simp only [runL, runE] at cS
  have cI := Ints_run [2] [2] (by decide) []
  rw [show (([2] : List Int) == [2]) = true by decide] at cI
  simp only [List.map_cons, List.map_nil] at cI cS
  have g1 := fun H => gives8_run 2 0 3 5 0 (.inl ⟨by kernel_rfl, rfl⟩) H
  have g2 := fun H => gives8_run 8 0 3 9 0 (.inl ⟨by kernel_rfl, rfl⟩) H
  have g3 := fun H => gives8_run 7 1 1 3 0 (.inl ⟨by kernel_rfl, rfl⟩) H
  have g4 := fun H => gives8_run 1 1 1 0 15 (.inr ⟨by kernel_rfl, by decide⟩) H
  have g5 := fun H => gives8_run 10 1 1 0 1 (.inr ⟨by kernel_rfl, by decide⟩) H
  have n1 := fun n H => number8_run n H
  have t1 := fun H => two8_run 5 (.mk 1 0 1 []) (.mk 1 7 1 []) H
  have t2 := fun H => two8_run 7 sv8 (.mk 1 2 1 []) H
  have t3 := fun H => two8_run 8 sv8 (.mk 1 2 1 []) H
  have t4 := fun H => two8_run 8 sv8 (.mk 1 0 1 []) H
  have t5 := fun H => two8_run 6 (.mk 1 1000000000 1 []) (.mk 1 1001 1 []) H
  have e1 := fun H => eval8_nil (.mk 7 0 0 [sv8, .mk 1 2 1 []]) (.ok (-4)) (by kernel_rfl) H
  have e2 := fun H => eval8_nil (.mk 8 0 0 [sv8, .mk 1 2 1 []]) (.ok (-3)) (by kernel_rfl) H
  have e3 := fun H => eval8_nil (.mk 8 0 0 [sv8, .mk 1 0 1 []]) (.error 14) (by kernel_rfl) H
  have e4 := fun H => eval8_nil (.mk 6 0 0 [.mk 1 1000000000 1 [], .mk 1 1001 1 []]) (.error 3) (by kernel_rfl) H
  simp only [vN, eN] at e1 e2 e3 e4
  (refine ARun.intro Tryz.func9 rfl Tryz.call9 Tryz.ntmps9 Tryz.results9 ?_; simp only [List.length_cons, List.length_nil, List.length_map, Nat.reduceAdd, Nat.reduceSub, List.replicate_succ, List.replicate_zero, List.cons_append, List.nil_append])
  repeat' (first | refine awp_seq ?_ | refine awp_block ?_ | refine awp_scope ?_ | ((first | refine awp_region_k fun Kn Kp hn hp => ?_ | show AWP _ _ (Code.region 5 _ true) _ _ _; refine awp_drawn_k (id := 5) [2, 3, 4] [] [.win [0, 1, 2], .win [0, 1], .eff 0, .eff 1, .eff 2, .win [3], .win [3], .win [3], .win [3], .win [3]] 3 rfl (by as_aux_lemma => kernel_rfl) fun Kn Kp hn hp => ?_ | show AWP _ _ (Code.region 6 _ true) _ _ _; refine awp_drawn_k (id := 6) [2, 3, 4] [] [.win [0, 1, 2], .win [0, 1], .eff 0, .eff 1, .eff 2, .win [3], .win [3], .win [3], .win [3], .win [3]] 3 rfl (by as_aux_lemma => kernel_rfl) fun Kn Kp hn hp => ?_ | show AWP _ _ (Code.region 7 _ true) _ _ _; refine awp_drawn_k (id := 7) [2, 3, 4] [] [.win [0, 1, 2], .win [0, 1], .eff 0, .eff 1, .eff 2, .win [3], .win [3], .win [3], .win [3], .win [3]] 3 rfl (by as_aux_lemma => kernel_rfl) fun Kn Kp hn hp => ?_ | show AWP _ _ (Code.region 8 _ true) _ _ _; refine awp_drawn_k (id := 8) [1, 2, 3, 4] [] [.win [0, 1, 2, 3], .eff 0, .eff 1, .eff 2, .eff 3, .win [4], .win [4], .win [4], .win [4], .win [4]] 4 rfl (by as_aux_lemma => kernel_rfl) fun Kn Kp hn hp => ?_ | refine oge_intro (by assumption) ?_ | (show AWE _ _ _ _ _ _ _ _ _; first | refine awe_intro (cX _) ?_ | refine awe_intro (cS _) ?_ | refine awe_intro (g1 _) ?_ | refine awe_intro (g2 _) ?_ | refine awe_intro (g3 _) ?_ | refine awe_intro (g4 _) ?_ | refine awe_intro (g5 _) ?_ | refine awe_intro (n1 _ _) ?_ | refine awe_intro (t1 _) ?_ | refine awe_intro (t2 _) ?_ | refine awe_intro (t3 _) ?_ | refine awe_intro (t4 _) ?_ | refine awe_intro (t5 _) ?_ | refine awe_intro (e1 _) ?_ | refine awe_intro (e2 _) ?_ | refine awe_intro (e3 _) ?_ | refine awe_intro (e4 _) ?_) | (show AWSF _ _ _ _ _ _ _ _ _ _ _; first | refine awsf_intro (cX _) (fun hrun => ?_) | refine awsf_intro (cS _) (fun hrun => ?_) | refine awsf_intro (g1 _) (fun hrun => ?_) | refine awsf_intro (g2 _) (fun hrun => ?_) | refine awsf_intro (g3 _) (fun hrun => ?_) | refine awsf_intro (g4 _) (fun hrun => ?_) | refine awsf_intro (g5 _) (fun hrun => ?_) | refine awsf_intro (n1 _ _) (fun hrun => ?_) | refine awsf_intro (t1 _) (fun hrun => ?_) | refine awsf_intro (t2 _) (fun hrun => ?_) | refine awsf_intro (t3 _) (fun hrun => ?_) | refine awsf_intro (t4 _) (fun hrun => ?_) | refine awsf_intro (t5 _) (fun hrun => ?_) | refine awsf_intro (e1 _) (fun hrun => ?_) | refine awsf_intro (e2 _) (fun hrun => ?_) | refine awsf_intro (e3 _) (fun hrun => ?_) | refine awsf_intro (e4 _) (fun hrun => ?_)) | (show OGE _ _ _ _ _ _ _; first | refine oge_intro (cX _) ?_ | refine oge_intro (cS _) ?_ | refine oge_intro (g1 _) ?_ | refine oge_intro (g2 _) ?_ | refine oge_intro (g3 _) ?_ | refine oge_intro (g4 _) ?_ | refine oge_intro (g5 _) ?_ | refine oge_intro (n1 _ _) ?_ | refine oge_intro (t1 _) ?_ | refine oge_intro (t2 _) ?_ | refine oge_intro (t3 _) ?_ | refine oge_intro (t4 _) ?_ | refine oge_intro (t5 _) ?_ | refine oge_intro (e1 _) ?_ | refine oge_intro (e2 _) ?_ | refine oge_intro (e3 _) ?_ | refine oge_intro (e4 _) ?_) | (show AWSE _ _ _ _ _ _ _ _ _ _ _; first | refine awse_intro (cX _) (fun hrun => ?_) | refine awse_intro (cS _) (fun hrun => ?_) | refine awse_intro (g1 _) (fun hrun => ?_) | refine awse_intro (g2 _) (fun hrun => ?_) | refine awse_intro (g3 _) (fun hrun => ?_) | refine awse_intro (g4 _) (fun hrun => ?_) | refine awse_intro (g5 _) (fun hrun => ?_) | refine awse_intro (n1 _ _) (fun hrun => ?_) | refine awse_intro (t1 _) (fun hrun => ?_) | refine awse_intro (t2 _) (fun hrun => ?_) | refine awse_intro (t3 _) (fun hrun => ?_) | refine awse_intro (t4 _) (fun hrun => ?_) | refine awse_intro (t5 _) (fun hrun => ?_) | refine awse_intro (e1 _) (fun hrun => ?_) | refine awse_intro (e2 _) (fun hrun => ?_) | refine awse_intro (e3 _) (fun hrun => ?_) | refine awse_intro (e4 _) (fun hrun => ?_)) | (show PGE _ _ _ _ _; first | refine pge_intro (cX _) (fun tm' => ?_) | refine pge_intro (cS _) (fun tm' => ?_) | refine pge_intro (g1 _) (fun tm' => ?_) | refine pge_intro (g2 _) (fun tm' => ?_) | refine pge_intro (g3 _) (fun tm' => ?_) | refine pge_intro (g4 _) (fun tm' => ?_) | refine pge_intro (g5 _) (fun tm' => ?_) | refine pge_intro (n1 _ _) (fun tm' => ?_) | refine pge_intro (t1 _) (fun tm' => ?_) | refine pge_intro (t2 _) (fun tm' => ?_) | refine pge_intro (t3 _) (fun tm' => ?_) | refine pge_intro (t4 _) (fun tm' => ?_) | refine pge_intro (t5 _) (fun tm' => ?_) | refine pge_intro (e1 _) (fun tm' => ?_) | refine pge_intro (e2 _) (fun tm' => ?_) | refine pge_intro (e3 _) (fun tm' => ?_) | refine pge_intro (e4 _) (fun tm' => ?_))) <;> (simp only [go_sem, Nat.reduceAdd, Nat.reduceSub, Nat.reduceMul, Nat.reduceLeDiff, Nat.reduceLT, Nat.reduceEqDiff, Int.reduceToNat, Int.reduceAdd, Int.reduceMul, Int.reduceSub, Int.reduceLT, Int.reduceLE, Int.reduceEq, Int.reduceNeg, Int.reduceBEq, Int.reduceBNe, ↓reduceIte, reduceCtorEq] <;> try simp (disch := omega) only [wrap_of])) | (refine hn _ _ ?_; clear hn hp Kn Kp) | (refine hp _ _ _ ?_; clear hn hp Kn Kp) | (refine awp_cond rfl (fun hb => ?_) (fun hb => ?_) <;> (try simp only [decide_eq_true_eq, decide_eq_false_iff_not, Bool.not_eq_true', Bool.not_eq_false', Bool.true_eq_false, Bool.false_eq_true, beq_iff_eq, bne_iff_ne, bne_eq_false_iff_eq, beq_eq_false_iff_ne, gt_iff_lt, ge_iff_le, Int.reduceEq, Int.reduceNe, Int.reduceLT, Int.reduceLE, ne_eq, not_true_eq_false, not_false_eq_true] at hb)) | ((first | refine awg_split (fun hb => ?_) (fun hb => ?_) | refine awsg_split (fun hb => ?_) (fun hb => ?_)) <;> have hb0 := hb <;> (try simp only [decide_eq_true_eq, decide_eq_false_iff_not, Bool.not_eq_true', Bool.not_eq_false', Bool.true_eq_false, Bool.false_eq_true, beq_iff_eq, bne_iff_ne, bne_eq_false_iff_eq, beq_eq_false_iff_ne, gt_iff_lt, ge_iff_le, Int.reduceEq, Int.reduceNe, Int.reduceLT, Int.reduceLE, ne_eq, not_true_eq_false, not_false_eq_true] at hb0) <;> (try simp only [beq_true, beq_false, Bool.not_eq_true', Bool.not_eq_false'] at hb) <;> (simp only [go_sem, Nat.reduceAdd, Nat.reduceSub, Nat.reduceMul, Nat.reduceLeDiff, Nat.reduceLT, Nat.reduceEqDiff, Int.reduceToNat, Int.reduceAdd, Int.reduceMul, Int.reduceSub, Int.reduceLT, Int.reduceLE, Int.reduceEq, Int.reduceNeg, Int.reduceBEq, Int.reduceBNe, ↓reduceIte, reduceCtorEq, hb, hb0] <;> try simp (disch := omega) only [wrap_of])) | (refine And.intro ?_ ?_) | ((show AWE _ _ _ _ _ _ _ _ _; refine awe_intro (ARun.lendA ( cI)) ?_); (simp only [go_sem, Nat.reduceAdd, Nat.reduceSub, Nat.reduceMul, Nat.reduceLeDiff, Nat.reduceLT, Nat.reduceEqDiff, Int.reduceToNat, Int.reduceAdd, Int.reduceMul, Int.reduceSub, Int.reduceLT, Int.reduceLE, Int.reduceEq, Int.reduceNeg, Int.reduceBEq, Int.reduceBNe, ↓reduceIte, reduceCtorEq] <;> try simp (disch := omega) only [wrap_of])) | ((show AWSF _ _ _ _ _ _ _ _ _ _ _; refine awsf_intro (ARun.lendA ( cI)) (fun hrun => ?_)); (simp only [go_sem, Nat.reduceAdd, Nat.reduceSub, Nat.reduceMul, Nat.reduceLeDiff, Nat.reduceLT, Nat.reduceEqDiff, Int.reduceToNat, Int.reduceAdd, Int.reduceMul, Int.reduceSub, Int.reduceLT, Int.reduceLE, Int.reduceEq, Int.reduceNeg, Int.reduceBEq, Int.reduceBNe, ↓reduceIte, reduceCtorEq] <;> try simp (disch := omega) only [wrap_of])) | ((show OGE _ _ _ _ _ _ _; refine oge_intro (ARun.lendA ( cI)) ?_); (simp only [go_sem, Nat.reduceAdd, Nat.reduceSub, Nat.reduceMul, Nat.reduceLeDiff, Nat.reduceLT, Nat.reduceEqDiff, Int.reduceToNat, Int.reduceAdd, Int.reduceMul, Int.reduceSub, Int.reduceLT, Int.reduceLE, Int.reduceEq, Int.reduceNeg, Int.reduceBEq, Int.reduceBNe, ↓reduceIte, reduceCtorEq] <;> try simp (disch := omega) only [wrap_of])) | ((show AWSE _ _ _ _ _ _ _ _ _ _ _; refine awse_intro (ARun.lendA ( cI)) (fun hrun => ?_)); (simp only [go_sem, Nat.reduceAdd, Nat.reduceSub, Nat.reduceMul, Nat.reduceLeDiff, Nat.reduceLT, Nat.reduceEqDiff, Int.reduceToNat, Int.reduceAdd, Int.reduceMul, Int.reduceSub, Int.reduceLT, Int.reduceLE, Int.reduceEq, Int.reduceNeg, Int.reduceBEq, Int.reduceBNe, ↓reduceIte, reduceCtorEq] <;> try simp (disch := omega) only [wrap_of])) | refine awp_skip ?_ | refine awp_ret ?_ | refine awp_exit ?_ | refine awp_label ?_ | refine awloop_step ?_ | (simp only [go_sem, Nat.reduceAdd, Nat.reduceSub, Nat.reduceMul, Nat.reduceLeDiff, Nat.reduceLT, Nat.reduceEqDiff, Int.reduceToNat, Int.reduceAdd, Int.reduceMul, Int.reduceSub, Int.reduceLT, Int.reduceLE, Int.reduceEq, Int.reduceNeg, Int.reduceBEq, Int.reduceBNe, ↓reduceIte, reduceCtorEq]) | fail)
  (refine resX ?_; try exact True.intro)
structure PF (p : Prg) : Prop where
  f : fine1 p
  z : p.name.size ≤ 2000000
  zv : ∀ v ∈ p.vars, v.name.size ≤ 2000000
theorem PF.few {p : Prg} (h : PF p) (H0 : List AObj) : ARun Tryz.prog 10 [.ag (cP p)] H0 (.ret (.b (fewB5 p)) H0) :=
  RFew5_run p (by have := h.f; unfold fine1 at this; omega) h.zv h.z H0
theorem PF.rvalid {p : Prg} (h : PF p) (H0 : List AObj) : ARun Tryz.prog 33 [.ag (cP p)] H0 (.ret (.b (validB p)) H0) := RValid_run p h.f h.z h.zv H0
theorem PF.pm {p : Prg} (h : PF p) (hf : fewB5 p = true) : PM p := by
  have := few5_all hf
  exact ⟨by omega, by omega, h.z, h.zv⟩
def useB (p : Prg) (st : List Int) (x : Cal) : Bool := fewB5 p && (validB p && (stIn p.vars st && callOk x))
theorem useB_all {p : Prg} {st : List Int} {x : Cal} (h : useB p st x = true) : fewB5 p = true ∧ validB p = true ∧ stIn p.vars st = true ∧ callOk x = true := by
  simpa only [useB, Bool.and_eq_true] using h
theorem usable8_run (p : Prg) (hp : PF p) (st : List Int) (x : Cal) (H0 : List AObj) : ARun Tryz.prog 19 [.ag (cP p), .rs 1 (rI st), agL x] H0 (.ret (.b (useB p st x)) H0) := by
  have cF := fun H => hp.few H
  unfold useB
  cases hf : fewB5 p with
  | false =>
    rw [hf] at cF
    (refine ARun.intro Tryz.func19 rfl Tryz.call19 Tryz.ntmps19 Tryz.results19 ?_; simp only [List.length_cons, List.length_nil, List.length_map, Nat.reduceAdd, Nat.reduceSub, List.replicate_succ, List.replicate_zero, List.cons_append, List.nil_append])
    (have cc1 := fun z1 => cF z1; refine wk ?_; clear cc1; (repeat' first | exact True.intro | refine Lf.mk ?_ ?_); all_goals intro hP)
    (refine resX ?_; try exact True.intro)
  | true =>
    rw [hf] at cF
    have cV' := fun H => hp.rvalid H
    cases hv : validB p with
    | false =>
      rw [hv] at cV'
      (refine ARun.intro Tryz.func19 rfl Tryz.call19 Tryz.ntmps19 Tryz.results19 ?_; simp only [List.length_cons, List.length_nil, List.length_map, Nat.reduceAdd, Nat.reduceSub, List.replicate_succ, List.replicate_zero, List.cons_append, List.nil_append])
      (have cc1 := fun z1 => cF z1; have cc2 := fun z1 => cV' z1; refine wk ?_; clear cc1 cc2; (repeat' first | exact True.intro | refine Lf.mk ?_ ?_); all_goals intro hP)
      (refine resX ?_; try exact True.intro)
    | true =>
      rw [hv] at cV'
      have cS' := fun H => RState8_run p.vars st (by have := (few5_all hf).2.1; omega) H
      cases hs : stIn p.vars st with
      | false =>
        rw [hs] at cS'
        (refine ARun.intro Tryz.func19 rfl Tryz.call19 Tryz.ntmps19 Tryz.results19 ?_; simp only [List.length_cons, List.length_nil, List.length_map, Nat.reduceAdd, Nat.reduceSub, List.replicate_succ, List.replicate_zero, List.cons_append, List.nil_append])
        (have cc1 := fun z1 => cF z1; have cc2 := fun z1 => cV' z1; have cc3 := fun z1 => cS' z1; refine wk ?_; clear cc1 cc2 cc3; (repeat' first | exact True.intro | refine Lf.mk ?_ ?_); all_goals intro hP)
        (refine resX ?_; try exact True.intro)
      | true =>
        rw [hs] at cS'
        have cC' := fun H => RCall_run x H
        simp only [Bool.true_and]
        generalize callOk x = b at *
        (refine ARun.intro Tryz.func19 rfl Tryz.call19 Tryz.ntmps19 Tryz.results19 ?_; simp only [List.length_cons, List.length_nil, List.length_map, Nat.reduceAdd, Nat.reduceSub, List.replicate_succ, List.replicate_zero, List.cons_append, List.nil_append])
        (have cc1 := fun z1 => cF z1; have cc2 := fun z1 => cV' z1; have cc3 := fun z1 => cS' z1; have cc4 := fun z1 => cC' z1; refine wk ?_; clear cc1 cc2 cc3 cc4; (repeat' first | exact True.intro | refine Lf.mk ?_ ?_); all_goals intro hP)
        (refine resX ?_; try exact True.intro)
theorem runM_len (p : Prg) (st : List Int) (x : Cal) : (runL (runM p st x)).length ≤ st.length := by
  unfold runM
  split
  · cases h : runStL p.vars x.i0 x.i1 x.i2 x.i3 (handP p x.ev.toNat) st with
    | error z => simp [runL]
    | ok st' => have := runStL_len _ _ _ h; simp only [runL]; omega
  · simp [runL]
theorem stIn_init : ∀ {vs : List Vr}, vs.all varB = true → stIn vs (vs.map (·.init)) = true
  | [], _ => rfl
  | v :: vs, h => by
    simp only [List.all_cons, Bool.and_eq_true] at h
    simp only [List.map_cons, stIn, Bool.and_eq_true, decide_eq_true_eq]
    refine ⟨?_, stIn_init h.2⟩
    have := h.1
    simp only [varB, Bool.and_eq_true, decide_eq_true_eq] at this
    omega
theorem valid_start {p : Prg} (h : validB p = true) : stIn p.vars (p.vars.map (·.init)) = true := by
  simp only [validB, Bool.and_eq_true, decide_eq_true_eq] at h
  exact stIn_init h.2.2.2.1
theorem runM_comes {p : Prg} {st : List Int} {x : Cal} (hv : validB p = true) (hs : stIn p.vars st = true) : RunTo p.vars (runStL p.vars x.i0 x.i1 x.i2 x.i3 (handP p x.ev.toNat) st) := by
  obtain ⟨us, V⟩ := validB_val hv
  exact runStL_comes V.len _ (val_hand V x.ev.toNat).1 st hs
theorem MeaningStates_run (p : Prg) (st : List Int) (x : Cal) (hp : PF p) (H0 : List AObj) :
    ARun Tryz.prog 4 [.ag (cP p), .rs 1 (rI st), agL x] H0 (.ret (.b true) H0) := by
  have hh := fun H => head8_run H
  have hu := fun H => usable8_run p hp st x H
  cases huse : useB p st x with
  | false =>
    rw [huse] at hu
    (refine ARun.intro Tryz.func4 rfl Tryz.call4 Tryz.ntmps4 Tryz.results4 ?_; simp only [List.length_cons, List.length_nil, List.length_map, Nat.reduceAdd, Nat.reduceSub, List.replicate_succ, List.replicate_zero, List.cons_append, List.nil_append])
    (have cc1 := fun z1 => hh z1; have cc2 := fun z1 => hu z1; refine wk ?_; clear cc1 cc2; (repeat' first | exact True.intro | refine Lf.mk ?_ ?_); all_goals intro hP)
    (refine resX ?_; try exact True.intro)
  | true =>
    rw [huse] at hu
    obtain ⟨hfew, hv, hs, hc⟩ := useB_all huse
    have pm := hp.pm hfew
    have c1 := fun H => pm.mstart H
    have c5 := fun H => pm.mrun st x H
    have hcm := runM_comes (x := x) hv hs
    have hpl := (few5_all hfew).2.1
    rw [show startR p = .ok (p.vars.map (·.init)) by unfold startR; rw [if_pos hv]] at c1
    rw [show runM p st x = runStL p.vars x.i0 x.i1 x.i2 x.i3 (handP p x.ev.toNat) st by unfold runM; rw [if_pos ⟨hc, hs, hv⟩]] at c5
    simp only [runL, runE] at c1
    have s1 := fun H => RState8_run p.vars (p.vars.map (·.init)) (by omega) H
    rw [valid_start hv] at s1
    generalize p.vars.map (·.init) = A at *
    cases hr : runStL p.vars x.i0 x.i1 x.i2 x.i3 (handP p x.ev.toNat) st with
    | ok st' =>
      rw [hr] at hcm
      simp only [RunTo] at hcm
      simp only [hr, runL, runE] at c5
      have s2 := fun H => RState8_run p.vars st' (by omega) H
      rw [hcm] at s2
      (refine ARun.intro Tryz.func4 rfl Tryz.call4 Tryz.ntmps4 Tryz.results4 ?_; simp only [List.length_cons, List.length_nil, List.length_map, Nat.reduceAdd, Nat.reduceSub, List.replicate_succ, List.replicate_zero, List.cons_append, List.nil_append])
      (have cc1 := fun z1 => hh z1; have cc2 := fun z1 => hu z1; have cc3 := fun z1 => c1 z1; have cc4 := fun z1 => c5 z1; have cc5 := fun z1 => s1 z1; have cc6 := fun z1 => s2 z1; refine wk ?_; clear cc1 cc2 cc3 cc4 cc5 cc6; (repeat' first | exact True.intro | refine Lf.mk ?_ ?_); all_goals intro hP)
      (refine resX ?_; try exact True.intro)
    | error z =>
      rw [hr] at hcm
      simp only [RunTo] at hcm
      simp only [hr, runL, runE, List.map_nil] at c5
      rcases hcm with rfl | rfl | rfl
      all_goals
        (refine ARun.intro Tryz.func4 rfl Tryz.call4 Tryz.ntmps4 Tryz.results4 ?_; simp only [List.length_cons, List.length_nil, List.length_map, Nat.reduceAdd, Nat.reduceSub, List.replicate_succ, List.replicate_zero, List.cons_append, List.nil_append])
        repeat' (first | refine awp_seq ?_ | refine awp_block ?_ | refine awp_scope ?_ | ((first | refine awp_region_k fun Kn Kp hn hp => ?_ | refine oge_intro (by assumption) ?_ | (show AWE _ _ _ _ _ _ _ _ _; first | refine awe_intro (hh _) ?_ | refine awe_intro (hu _) ?_ | refine awe_intro (c1 _) ?_ | refine awe_intro (c5 _) ?_ | refine awe_intro (s1 _) ?_) | (show AWSF _ _ _ _ _ _ _ _ _ _ _; first | refine awsf_intro (hh _) (fun hrun => ?_) | refine awsf_intro (hu _) (fun hrun => ?_) | refine awsf_intro (c1 _) (fun hrun => ?_) | refine awsf_intro (c5 _) (fun hrun => ?_) | refine awsf_intro (s1 _) (fun hrun => ?_)) | (show OGE _ _ _ _ _ _ _; first | refine oge_intro (hh _) ?_ | refine oge_intro (hu _) ?_ | refine oge_intro (c1 _) ?_ | refine oge_intro (c5 _) ?_ | refine oge_intro (s1 _) ?_) | (show AWSE _ _ _ _ _ _ _ _ _ _ _; first | refine awse_intro (hh _) (fun hrun => ?_) | refine awse_intro (hu _) (fun hrun => ?_) | refine awse_intro (c1 _) (fun hrun => ?_) | refine awse_intro (c5 _) (fun hrun => ?_) | refine awse_intro (s1 _) (fun hrun => ?_)) | (show PGE _ _ _ _ _; first | refine pge_intro (hh _) (fun tm' => ?_) | refine pge_intro (hu _) (fun tm' => ?_) | refine pge_intro (c1 _) (fun tm' => ?_) | refine pge_intro (c5 _) (fun tm' => ?_) | refine pge_intro (s1 _) (fun tm' => ?_))) <;> (simp only [go_sem, Nat.reduceAdd, Nat.reduceSub, Nat.reduceMul, Nat.reduceLeDiff, Nat.reduceLT, Nat.reduceEqDiff, Int.reduceToNat, Int.reduceAdd, Int.reduceMul, Int.reduceSub, Int.reduceLT, Int.reduceLE, Int.reduceEq, Int.reduceNeg, Int.reduceBEq, Int.reduceBNe, ↓reduceIte, reduceCtorEq, List.map_nil, List.length_nil] <;> try simp (disch := omega) only [wrap_of])) | (refine hn _ _ ?_; clear hn hp Kn Kp) | (refine hp _ _ _ ?_; clear hn hp Kn Kp) | (refine awp_cond rfl (fun hb => ?_) (fun hb => ?_) <;> (try simp only [decide_eq_true_eq, decide_eq_false_iff_not, Bool.not_eq_true', Bool.not_eq_false', Bool.true_eq_false, Bool.false_eq_true, beq_iff_eq, bne_iff_ne, bne_eq_false_iff_eq, beq_eq_false_iff_ne, gt_iff_lt, ge_iff_le, Int.reduceEq, Int.reduceNe, Int.reduceLT, Int.reduceLE, ne_eq, not_true_eq_false, not_false_eq_true] at hb)) | ((first | refine awg_split (fun hb => ?_) (fun hb => ?_) | refine awsg_split (fun hb => ?_) (fun hb => ?_)) <;> have hb0 := hb <;> (try simp only [decide_eq_true_eq, decide_eq_false_iff_not, Bool.not_eq_true', Bool.not_eq_false', Bool.true_eq_false, Bool.false_eq_true, beq_iff_eq, bne_iff_ne, bne_eq_false_iff_eq, beq_eq_false_iff_ne, gt_iff_lt, ge_iff_le, Int.reduceEq, Int.reduceNe, Int.reduceLT, Int.reduceLE, ne_eq, not_true_eq_false, not_false_eq_true] at hb0) <;> (try simp only [beq_true, beq_false, Bool.not_eq_true', Bool.not_eq_false'] at hb) <;> (simp only [go_sem, Nat.reduceAdd, Nat.reduceSub, Nat.reduceMul, Nat.reduceLeDiff, Nat.reduceLT, Nat.reduceEqDiff, Int.reduceToNat, Int.reduceAdd, Int.reduceMul, Int.reduceSub, Int.reduceLT, Int.reduceLE, Int.reduceEq, Int.reduceNeg, Int.reduceBEq, Int.reduceBNe, ↓reduceIte, reduceCtorEq, List.map_nil, List.length_nil, hb, hb0] <;> try simp (disch := omega) only [wrap_of])) | (refine And.intro ?_ ?_) | refine awp_skip ?_ | refine awp_ret ?_ | refine awp_exit ?_ | refine awp_label ?_ | refine awloop_step ?_ | fail)
        (refine resX ?_; try exact True.intro)
theorem sumM_mem {α : Type} {μ : α → Nat} {a : α} : ∀ {l : List α}, a ∈ l → μ a ≤ sumM μ l
  | x :: xs, h => by
    simp only [sumM]
    rcases List.mem_cons.1 h with rfl | h
    · omega
    · have := sumM_mem (μ := μ) h; omega
theorem PF.of {p : Prg} (h : wP p ≤ 1048577) : PF p := by
  have := manyL_le p.on0; have := manyL_le p.on1; have := manyL_le p.on2; have := manyL_le p.on3; have := manyL_le p.on4
  have := len_sumM (μ := wV) (fun _ => by simp [wV]) p.vars
  simp only [wP] at h
  refine ⟨?_, by omega, fun v hv => ?_⟩
  · unfold fine1; omega
  · have := sumM_mem (μ := wV) hv
    simp only [wV] at this
    omega
abbrev bk (H : Type) (d : DataW H) : Nat := Go.Proofs.YtpfjlifneibhfaaGreat.Rows.uptoBulk d
abbrev bkl (H : Type) (d : List (DataW H)) : Nat := Go.Proofs.YtpfjlifneibhfaaGreat.Rows.uptoBulkAll d
theorem bulk : Bulk bk bkl where
  lit := fun H l => by cases l <;> simp [bk, Go.Proofs.YtpfjlifneibhfaaGreat.Rows.uptoBulk]
  str := fun H b => by simp [bk, Go.Proofs.YtpfjlifneibhfaaGreat.Rows.uptoBulk]
  nil := fun H => by simp [bk, Go.Proofs.YtpfjlifneibhfaaGreat.Rows.uptoBulk]
  slice := fun H es sp => by simp [bk, bkl, Go.Proofs.YtpfjlifneibhfaaGreat.Rows.uptoBulk]
  agg := fun H ps => by simp [bk, bkl, Go.Proofs.YtpfjlifneibhfaaGreat.Rows.uptoBulk]
  lnil := fun H => by simp [bkl, Go.Proofs.YtpfjlifneibhfaaGreat.Rows.uptoBulkAll]
  lcons := fun H d l => by simp [bk, bkl, Go.Proofs.YtpfjlifneibhfaaGreat.Rows.uptoBulkAll]
theorem laidOut : laidOutB Tryz.prog = true := by kernel_rfl
theorem own : ownKnob Tryz.prog.godebug = none := by kernel_rfl
theorem len1 {α : Type} {l : List α} (h : l.length = 1) : ∃ a, l = [a] := by
  match l, h with | [a], _ => exact ⟨a, rfl⟩
theorem bulk_bound {H : Type} {l : List (DataW H)} (hk : Go.Proofs.YtpfjlifneibhfaaGreat.Rows.uptoSmall H l = true) : bkl H l ≤ 1048576 := of_decide_eq_true hk
theorem rdE : ∀ n, Rd Tryz.prog bk n 33 encE nodes (fun _ => True) := by
  intro n
  induction n with
  | zero => exact Rd.zero
  | succ n ih =>
    intro H e w sp hd fuel cs x hn h hlt
    obtain ⟨xs, m, hm, hc, hx, hb, hf, hl⟩ := trod_fields bulk Tryz.underlying33 hn h hlt
    rw [show Tryz.prog.cellsOf 33 = 4 from by kernel_rfl] at hc
    obtain ⟨x0, x1, x2, x3, rfl⟩ : ∃ x0 x1 x2 x3, xs = [x0, x1, x2, x3] := by
      match xs, hx with | [x0, x1, x2, x3], _ => exact ⟨x0, x1, x2, x3, rfl⟩
    obtain ⟨c0, c1, c2, c3, rfl⟩ : ∃ c0 c1 c2 c3, cs = [c0, c1, c2, c3] := by
      match cs, hc with | [c0, c1, c2, c3], _ => exact ⟨c0, c1, c2, c3, rfl⟩
    simp only [List.map_cons, List.map_nil, bulk.lcons, bulk.lnil] at hb
    have f0 := hf 0 _ rfl
    have f1 := hf 1 _ rfl
    have f2 := hf 2 _ rfl
    have f3 := hf 3 _ rfl
    simp only [show Tryz.prog.cellsOf 31 = 1 from by kernel_rfl, show Tryz.prog.cellsOf 3 = 1 from by kernel_rfl, List.drop_zero, List.drop_succ_cons, List.take_succ_cons, List.take_zero, List.getElem?_cons_zero, List.getElem?_cons_succ] at f0 f1 f2 f3
    obtain ⟨a0, r0, m0, p0⟩ := (Rd.int bulk (n := n) Tryz.underlying3) hm f0 (hl x0 (by simp))
    obtain ⟨a1, r1, m1, p1⟩ := (Rd.int bulk (n := n) Tryz.underlying3) hm f1 (hl x1 (by simp))
    obtain ⟨a2, r2, m2, p2⟩ := (Rd.int bulk (n := n) Tryz.underlying3) hm f2 (hl x2 (by simp))
    obtain ⟨a3, r3, m3, p3⟩ := (Rd.le (Rd.slice bulk (n := n) Tryz.underlying31 (by kernel_rfl) (by decide) ih encE_len) (Nat.le_succ n)) hm f3 (hl x3 (by simp))
    (try dsimp only at m0); (try dsimp only at m1); (try dsimp only at m2); (try dsimp only at m3)
    refine ⟨.mk a0 a1 a2 a3, ?_, ?_, trivial⟩
    · rw [encE_eq]; exact r0.append (r1.append (r2.append (r3)))
    · rw [nodes_eq]; simp only [Ex.kids, nodesL_sum]; omega
theorem rdS : ∀ n, Rd Tryz.prog bk n 50 encS wS (fun _ => True) := by
  intro n
  induction n with
  | zero => exact Rd.zero
  | succ n ih =>
    intro H e w sp hd fuel cs x hn h hlt
    obtain ⟨xs, m, hm, hc, hx, hb, hf, hl⟩ := trod_fields bulk Tryz.underlying50 hn h hlt
    rw [show Tryz.prog.cellsOf 50 = 13 from by kernel_rfl] at hc
    obtain ⟨x0, x1, x2, x3, x4, x5, x6, rfl⟩ : ∃ x0 x1 x2 x3 x4 x5 x6, xs = [x0, x1, x2, x3, x4, x5, x6] := by
      match xs, hx with | [x0, x1, x2, x3, x4, x5, x6], _ => exact ⟨x0, x1, x2, x3, x4, x5, x6, rfl⟩
    obtain ⟨c0, c1, c2, c3, c4, c5, c6, c7, c8, c9, c10, c11, c12, rfl⟩ : ∃ c0 c1 c2 c3 c4 c5 c6 c7 c8 c9 c10 c11 c12, cs = [c0, c1, c2, c3, c4, c5, c6, c7, c8, c9, c10, c11, c12] := by
      match cs, hc with | [c0, c1, c2, c3, c4, c5, c6, c7, c8, c9, c10, c11, c12], _ => exact ⟨c0, c1, c2, c3, c4, c5, c6, c7, c8, c9, c10, c11, c12, rfl⟩
    simp only [List.map_cons, List.map_nil, bulk.lcons, bulk.lnil] at hb
    have f0 := hf 0 _ rfl
    have f1 := hf 1 _ rfl
    have f2 := hf 2 _ rfl
    have f3 := hf 3 _ rfl
    have f4 := hf 4 _ rfl
    have f5 := hf 5 _ rfl
    have f6 := hf 6 _ rfl
    simp only [show Tryz.prog.cellsOf 23 = 1 from by kernel_rfl, show Tryz.prog.cellsOf 33 = 4 from by kernel_rfl, show Tryz.prog.cellsOf 3 = 1 from by kernel_rfl, List.drop_zero, List.drop_succ_cons, List.take_succ_cons, List.take_zero, List.getElem?_cons_zero, List.getElem?_cons_succ] at f0 f1 f2 f3 f4 f5 f6
    obtain ⟨a0, r0, m0, p0⟩ := (Rd.int bulk (n := n) Tryz.underlying3) hm f0 (hl x0 (by simp))
    obtain ⟨a1, r1, m1, p1⟩ := (Rd.int bulk (n := n) Tryz.underlying3) hm f1 (hl x1 (by simp))
    obtain ⟨a2, r2, m2, p2⟩ := (Rd.int bulk (n := n) Tryz.underlying3) hm f2 (hl x2 (by simp))
    obtain ⟨a3, r3, m3, p3⟩ := (rdE n) hm f3 (hl x3 (by simp))
    obtain ⟨a4, r4, m4, p4⟩ := (rdE n) hm f4 (hl x4 (by simp))
    obtain ⟨a5, r5, m5, p5⟩ := (Rd.le (Rd.slice bulk (n := n) Tryz.underlying23 (by kernel_rfl) (by decide) ih encS_len) (Nat.le_succ n)) hm f5 (hl x5 (by simp))
    obtain ⟨a6, r6, m6, p6⟩ := (Rd.le (Rd.slice bulk (n := n) Tryz.underlying23 (by kernel_rfl) (by decide) ih encS_len) (Nat.le_succ n)) hm f6 (hl x6 (by simp))
    (try dsimp only at m0); (try dsimp only at m1); (try dsimp only at m2); (try dsimp only at m3); (try dsimp only at m4); (try dsimp only at m5); (try dsimp only at m6)
    refine ⟨.mk a0 a1 a2 a3 a4 a5 a6, ?_, ?_, trivial⟩
    · rw [encS_eq]; rw [encE_eq] at r3 r4; exact r0.append (r1.append (r2.append (r3.append (r4.append (r5.append (r6))))))
    · rw [wS_eq]; simp only [St.a, St.b, St.thn, St.els, wSL_sum]; omega
theorem rdV : ∀ n, Rd Tryz.prog bk n 59 encV wV (fun _ => True) := by
  intro n
  induction n with
  | zero => exact Rd.zero
  | succ n ih =>
    intro H e w sp hd fuel cs x hn h hlt
    obtain ⟨xs, m, hm, hc, hx, hb, hf, hl⟩ := trod_fields bulk Tryz.underlying59 hn h hlt
    rw [show Tryz.prog.cellsOf 59 = 5 from by kernel_rfl] at hc
    obtain ⟨x0, x1, x2, x3, x4, rfl⟩ : ∃ x0 x1 x2 x3 x4, xs = [x0, x1, x2, x3, x4] := by
      match xs, hx with | [x0, x1, x2, x3, x4], _ => exact ⟨x0, x1, x2, x3, x4, rfl⟩
    obtain ⟨c0, c1, c2, c3, c4, rfl⟩ : ∃ c0 c1 c2 c3 c4, cs = [c0, c1, c2, c3, c4] := by
      match cs, hc with | [c0, c1, c2, c3, c4], _ => exact ⟨c0, c1, c2, c3, c4, rfl⟩
    simp only [List.map_cons, List.map_nil, bulk.lcons, bulk.lnil] at hb
    have f0 := hf 0 _ rfl
    have f1 := hf 1 _ rfl
    have f2 := hf 2 _ rfl
    have f3 := hf 3 _ rfl
    have f4 := hf 4 _ rfl
    simp only [show Tryz.prog.cellsOf 3 = 1 from by kernel_rfl, show Tryz.prog.cellsOf 9 = 1 from by kernel_rfl, List.drop_zero, List.drop_succ_cons, List.take_succ_cons, List.take_zero, List.getElem?_cons_zero, List.getElem?_cons_succ] at f0 f1 f2 f3 f4
    obtain ⟨a0, r0, m0, p0⟩ := (Rd.str bulk (n := n) Tryz.underlying9) hm f0 (hl x0 (by simp))
    obtain ⟨a1, r1, m1, p1⟩ := (Rd.int bulk (n := n) Tryz.underlying3) hm f1 (hl x1 (by simp))
    obtain ⟨a2, r2, m2, p2⟩ := (Rd.int bulk (n := n) Tryz.underlying3) hm f2 (hl x2 (by simp))
    obtain ⟨a3, r3, m3, p3⟩ := (Rd.int bulk (n := n) Tryz.underlying3) hm f3 (hl x3 (by simp))
    obtain ⟨a4, r4, m4, p4⟩ := (Rd.int bulk (n := n) Tryz.underlying3) hm f4 (hl x4 (by simp))
    (try dsimp only at m0); (try dsimp only at m1); (try dsimp only at m2); (try dsimp only at m3); (try dsimp only at m4)
    refine ⟨⟨a0, a1, a2, a3, a4⟩, ?_, ?_, trivial⟩
    · exact r0.append (r1.append (r2.append (r3.append (r4))))
    · simp only [wV]; omega
abbrev On5 := List St × List St × List St × List St × List St
def encOn (o : On5) : List PV := [.rs 13 (o.1.map encS), .rs 13 (o.2.1.map encS), .rs 13 (o.2.2.1.map encS), .rs 13 (o.2.2.2.1.map encS), .rs 13 (o.2.2.2.2.map encS)]
def wOn (o : On5) : Nat := wSL o.1 + wSL o.2.1 + wSL o.2.2.1 + wSL o.2.2.2.1 + wSL o.2.2.2.2
theorem rdSs (n : Nat) : Rd Tryz.prog bk n 23 (fun l : List St => [.rs 13 (l.map encS)]) (fun l => sumM wS l + 1) (fun l => ∀ a ∈ l, True) :=
  Rd.le (Rd.slice bulk (n := n) Tryz.underlying23 (by kernel_rfl) (by decide) (rdS n) encS_len) (Nat.le_succ n)
theorem rdVs (n : Nat) : Rd Tryz.prog bk n 22 (fun l : List Vr => [.rs 5 (l.map encV)]) (fun l => sumM wV l + 1) (fun l => ∀ a ∈ l, True) :=
  Rd.le (Rd.slice bulk (n := n) Tryz.underlying22 (by kernel_rfl) (by decide) (rdV n) (fun _ => rfl)) (Nat.le_succ n)
theorem rdOn : ∀ n, Rd Tryz.prog bk n 24 encOn wOn (fun _ => True) := by
  intro n
  cases n with
  | zero => exact Rd.zero
  | succ n =>
    intro H e w sp hd fuel cs x hn h hlt
    obtain ⟨xs, m, hm, hc, hx, hb, hf, hl⟩ := trod_items bulk Tryz.underlying24 hn h hlt
    rw [show Tryz.prog.cellsOf 24 = 5 from by kernel_rfl] at hc
    obtain ⟨x0, x1, x2, x3, x4, rfl⟩ : ∃ x0 x1 x2 x3 x4, xs = [x0, x1, x2, x3, x4] := by
      match xs, hx with | [x0, x1, x2, x3, x4], _ => exact ⟨x0, x1, x2, x3, x4, rfl⟩
    obtain ⟨c0, c1, c2, c3, c4, rfl⟩ : ∃ c0 c1 c2 c3 c4, cs = [c0, c1, c2, c3, c4] := by
      match cs, hc with | [c0, c1, c2, c3, c4], _ => exact ⟨c0, c1, c2, c3, c4, rfl⟩
    simp only [List.map_cons, List.map_nil, bulk.lcons, bulk.lnil] at hb
    have f0 := hf 0 (by omega)
    have f1 := hf 1 (by omega)
    have f2 := hf 2 (by omega)
    have f3 := hf 3 (by omega)
    have f4 := hf 4 (by omega)
    simp only [show Tryz.prog.cellsOf 23 = 1 from by kernel_rfl, Nat.reduceMul, List.drop_zero, List.drop_succ_cons, List.take_succ_cons, List.take_zero, List.getElem?_cons_zero, List.getElem?_cons_succ] at f0 f1 f2 f3 f4
    obtain ⟨a0, r0, m0, p0⟩ := rdSs n hm f0 (hl x0 (by simp))
    obtain ⟨a1, r1, m1, p1⟩ := rdSs n hm f1 (hl x1 (by simp))
    obtain ⟨a2, r2, m2, p2⟩ := rdSs n hm f2 (hl x2 (by simp))
    obtain ⟨a3, r3, m3, p3⟩ := rdSs n hm f3 (hl x3 (by simp))
    obtain ⟨a4, r4, m4, p4⟩ := rdSs n hm f4 (hl x4 (by simp))
    dsimp only at m0 m1 m2 m3 m4
    refine ⟨(a0, a1, a2, a3, a4), r0.append (r1.append (r2.append (r3.append r4))), ?_, trivial⟩
    simp only [wOn, wSL_sum]; omega
theorem rdP : ∀ n, Rd Tryz.prog bk n 26 encP wP (fun _ => True) := by
  intro n
  induction n with
  | zero => exact Rd.zero
  | succ n ih =>
    intro H e w sp hd fuel cs x hn h hlt
    obtain ⟨xs, m, hm, hc, hx, hb, hf, hl⟩ := trod_fields bulk Tryz.underlying26 hn h hlt
    rw [show Tryz.prog.cellsOf 26 = 9 from by kernel_rfl] at hc
    obtain ⟨x0, x1, x2, x3, x4, rfl⟩ : ∃ x0 x1 x2 x3 x4, xs = [x0, x1, x2, x3, x4] := by
      match xs, hx with | [x0, x1, x2, x3, x4], _ => exact ⟨x0, x1, x2, x3, x4, rfl⟩
    obtain ⟨c0, c1, c2, c3, c4, c5, c6, c7, c8, rfl⟩ : ∃ c0 c1 c2 c3 c4 c5 c6 c7 c8, cs = [c0, c1, c2, c3, c4, c5, c6, c7, c8] := by
      match cs, hc with | [c0, c1, c2, c3, c4, c5, c6, c7, c8], _ => exact ⟨c0, c1, c2, c3, c4, c5, c6, c7, c8, rfl⟩
    simp only [List.map_cons, List.map_nil, bulk.lcons, bulk.lnil] at hb
    have f0 := hf 0 _ rfl
    have f1 := hf 1 _ rfl
    have f2 := hf 2 _ rfl
    have f3 := hf 3 _ rfl
    have f4 := hf 4 _ rfl
    simp only [show Tryz.prog.cellsOf 24 = 5 from by kernel_rfl, show Tryz.prog.cellsOf 22 = 1 from by kernel_rfl, show Tryz.prog.cellsOf 3 = 1 from by kernel_rfl, show Tryz.prog.cellsOf 9 = 1 from by kernel_rfl, List.drop_zero, List.drop_succ_cons, List.take_succ_cons, List.take_zero, List.getElem?_cons_zero, List.getElem?_cons_succ] at f0 f1 f2 f3 f4
    obtain ⟨a0, r0, m0, p0⟩ := (Rd.str bulk (n := n) Tryz.underlying9) hm f0 (hl x0 (by simp))
    obtain ⟨a1, r1, m1, p1⟩ := (rdVs n) hm f1 (hl x1 (by simp))
    obtain ⟨a2, r2, m2, p2⟩ := (rdOn n) hm f2 (hl x2 (by simp))
    obtain ⟨a3, r3, m3, p3⟩ := (Rd.int bulk (n := n) Tryz.underlying3) hm f3 (hl x3 (by simp))
    obtain ⟨a4, r4, m4, p4⟩ := (Rd.int bulk (n := n) Tryz.underlying3) hm f4 (hl x4 (by simp))
    (try dsimp only at m0); (try dsimp only at m1); (try dsimp only at m2); (try dsimp only at m3); (try dsimp only at m4)
    refine ⟨⟨a0, a1, a2.1, a2.2.1, a2.2.2.1, a2.2.2.2.1, a2.2.2.2.2, a3, a4⟩, ?_, ?_, trivial⟩
    · exact r0.append (r1.append (r2.append (r3.append (r4))))
    · simp only [wP]; simp only [wOn] at m2; omega
theorem u8wf2 {n : Int} (h : (Lit.int .u8 n).wf = true) : 0 ≤ n ∧ n ≤ 255 := by
  simpa [Lit.wf, IntKind.min, IntKind.max, IntKind.signed, IntKind.bits] using h
theorem rdI1 (n : Nat) : Rd Tryz.prog bk n 27 (fun l : List Int => [.rs 1 (rI l)]) (fun l => sumM (fun _ => 1) l + 1) (fun l => ∀ a ∈ l, (Lit.int .i64 a).wf = true) :=
  Rd.le (Rd.slice bulk (n := n) Tryz.underlying27 (by kernel_rfl) (by decide) (Rd.int bulk (n := n) Tryz.underlying3) (fun _ => rfl)) (Nat.le_succ n)
abbrev I4 := Int × Int × Int × Int
theorem rdI4 : ∀ n, Rd Tryz.prog bk n 28 (fun a : I4 => [.i a.1, .i a.2.1, .i a.2.2.1, .i a.2.2.2]) (fun _ => 1) (fun _ => True) := by
  intro n
  cases n with
  | zero => exact Rd.zero
  | succ n =>
    intro H e w sp hd fuel cs x hn h hlt
    obtain ⟨xs, m, hm, hc, hx, hb, hf, hl⟩ := trod_items bulk Tryz.underlying28 hn h hlt
    rw [show Tryz.prog.cellsOf 28 = 4 from by kernel_rfl] at hc
    obtain ⟨x0, x1, x2, x3, rfl⟩ : ∃ x0  x1  x2  x3, xs = [x0, x1, x2, x3] := by
      match xs, hx with | [x0, x1, x2, x3], _ => exact ⟨x0, x1, x2, x3, rfl⟩
    obtain ⟨c0, c1, c2, c3, rfl⟩ : ∃ c0  c1  c2  c3, cs = [c0, c1, c2, c3] := by
      match cs, hc with | [c0, c1, c2, c3], _ => exact ⟨c0, c1, c2, c3, rfl⟩
    simp only [List.map_cons, List.map_nil, bulk.lcons, bulk.lnil] at hb
    have f0 := hf 0 (by omega)
    have f1 := hf 1 (by omega)
    have f2 := hf 2 (by omega)
    have f3 := hf 3 (by omega)
    simp only [show Tryz.prog.cellsOf 3 = 1 from by kernel_rfl, Nat.reduceMul, List.drop_zero, List.drop_succ_cons, List.take_succ_cons, List.take_zero, List.getElem?_cons_zero, List.getElem?_cons_succ] at f0 f1 f2 f3
    obtain ⟨a0, r0, m0, p0⟩ := Rd.int bulk (n := n) Tryz.underlying3 hm f0 (hl x0 (by simp))
    obtain ⟨a1, r1, m1, p1⟩ := Rd.int bulk (n := n) Tryz.underlying3 hm f1 (hl x1 (by simp))
    obtain ⟨a2, r2, m2, p2⟩ := Rd.int bulk (n := n) Tryz.underlying3 hm f2 (hl x2 (by simp))
    obtain ⟨a3, r3, m3, p3⟩ := Rd.int bulk (n := n) Tryz.underlying3 hm f3 (hl x3 (by simp))
    dsimp only at m0 m1 m2 m3
    refine ⟨(a0, a1, a2, a3), r0.append (r1.append (r2.append (r3))), ?_, trivial⟩
    dsimp only; omega
abbrev cCal (x : Cal) : List PV := [.i x.ev, .i x.i0, .i x.i1, .i x.i2, .i x.i3]
theorem rdL : ∀ n, Rd Tryz.prog bk n 30 cCal (fun _ => 1) (fun _ => True) := by
  intro n
  induction n with
  | zero => exact Rd.zero
  | succ n ih =>
    intro H e w sp hd fuel cs x hn h hlt
    obtain ⟨xs, m, hm, hc, hx, hb, hf, hl⟩ := trod_fields bulk Tryz.underlying30 hn h hlt
    rw [show Tryz.prog.cellsOf 30 = 5 from by kernel_rfl] at hc
    obtain ⟨x0, x1, rfl⟩ : ∃ x0 x1, xs = [x0, x1] := by
      match xs, hx with | [x0, x1], _ => exact ⟨x0, x1, rfl⟩
    obtain ⟨c0, c1, c2, c3, c4, rfl⟩ : ∃ c0 c1 c2 c3 c4, cs = [c0, c1, c2, c3, c4] := by
      match cs, hc with | [c0, c1, c2, c3, c4], _ => exact ⟨c0, c1, c2, c3, c4, rfl⟩
    simp only [List.map_cons, List.map_nil, bulk.lcons, bulk.lnil] at hb
    have f0 := hf 0 _ rfl
    have f1 := hf 1 _ rfl
    simp only [show Tryz.prog.cellsOf 28 = 4 from by kernel_rfl, show Tryz.prog.cellsOf 3 = 1 from by kernel_rfl, List.drop_zero, List.drop_succ_cons, List.take_succ_cons, List.take_zero, List.getElem?_cons_zero, List.getElem?_cons_succ] at f0 f1
    obtain ⟨a0, r0, m0, p0⟩ := (Rd.int bulk (n := n) Tryz.underlying3) hm f0 (hl x0 (by simp))
    obtain ⟨a1, r1, m1, p1⟩ := (rdI4 n) hm f1 (hl x1 (by simp))
    (try dsimp only at m0); (try dsimp only at m1)
    refine ⟨⟨a0, a1.1, a1.2.1, a1.2.2.1, a1.2.2.2⟩, ?_, ?_, trivial⟩
    · exact r0.append (r1)
    · dsimp only; omega
/-- No package variable is read. -/
theorem gtabW (W : World) : GRel W (Old W) := fun g cells h => by cases h
end Go.Proofs.YtpfjlifneibhfaaGreat.Y
namespace Go.Proofs.YtpfjlifneibhfaaGreat.AL
theorem stSL_split {us : List Un} : ∀ {a b : List St}, stSL us (a ++ b) = 0 → stSL us a = 0 ∧ stSL us b = 0
  | [], b, h => ⟨by simp [stSL], h⟩
  | s :: a, b, h => by
    rw [List.cons_append] at h
    obtain ⟨h1, h2⟩ := stSL_cons h
    obtain ⟨h3, h4⟩ := stSL_split h2
    refine ⟨?_, h4⟩
    simp only [stSL]
    rw [if_pos h1]; exact h3
/-- A handler that passes. -/
def HOk (us : List Un) (l : List St) : Prop := stSL us l = 0 ∧ smSL l = true ∧ manyL l ≤ 100
theorem HOk.split {us : List Un} {a b : List St} (h : HOk us (a ++ b)) : HOk us a ∧ HOk us b := by
  obtain ⟨h1, h2, h3⟩ := h
  obtain ⟨g1, g2⟩ := stSL_split h1
  rw [smSL_app, Bool.and_eq_true] at h2
  rw [manyL_append] at h3
  exact ⟨⟨g1, h2.1, by omega⟩, ⟨g2, h2.2, by omega⟩⟩
theorem wSL_appM : ∀ a b : List St, wSL (a ++ b) = wSL a + wSL b
  | [], b => by simp [wSL]
  | x :: a, b => by simp only [List.cons_append, wSL, wSL_appM a b]; omega
/-- The program with another handler. -/
def putP (p : Prg) (k : Nat) (l : List St) : Prg := onP p (if k = 0 then l else p.on0) (if k = 1 then l else p.on1) (if k = 2 then l else p.on2) (if k = 3 then l else p.on3) (if k = 4 then l else p.on4)
theorem val_hok {p : Prg} {us : List Un} (V : Val p us) (k : Nat) : HOk us (handP p k) := val_hand V k
theorem put_valid {p : Prg} {us : List Un} (hv : validB p = true) (V : Val p us) (k : Nat) {l : List St} (hl : HOk us l) : validB (putP p k l) = true := by
  refine valid_on hv V ?_ ?_ ?_ ?_ ?_ <;> split <;> first | exact handS_of hl | exact handS_of V.h0 | exact handS_of V.h1 | exact handS_of V.h2 | exact handS_of V.h3 | exact handS_of V.h4
theorem put_hand {p : Prg} {k : Nat} (hk : k < 5) (l : List St) : handP (putP p k l) k = l := by
  have : k = 0 ∨ k = 1 ∨ k = 2 ∨ k = 3 ∨ k = 4 := by omega
  rcases this with rfl | rfl | rfl | rfl | rfl <;> simp [handP, putP, onP]
theorem put_w {p : Prg} {k : Nat} (hk : k < 5) {l : List St} (h : wSL l ≤ wSL (handP p k)) :
    wSL (putP p k l).on0 + wSL (putP p k l).on1 + wSL (putP p k l).on2 + wSL (putP p k l).on3 + wSL (putP p k l).on4 ≤ wSL p.on0 + wSL p.on1 + wSL p.on2 + wSL p.on3 + wSL p.on4 := by
  have : k = 0 ∨ k = 1 ∨ k = 2 ∨ k = 3 ∨ k = 4 := by omega
  rcases this with rfl | rfl | rfl | rfl | rfl <;> simp [handP, putP, onP] at h ⊢ <;> omega
/-- Only one handler. -/
def onlyP (p : Prg) (k : Nat) : Prg := onP p (if k = 0 then p.on0 else []) (if k = 1 then p.on1 else []) (if k = 2 then p.on2 else []) (if k = 3 then p.on3 else []) (if k = 4 then p.on4 else [])
theorem only_valid {p : Prg} (hv : validB p = true) (k : Nat) : validB (onlyP p k) = true := by
  obtain ⟨vs, V⟩ := validB_val hv
  refine valid_on hv V ?_ ?_ ?_ ?_ ?_ <;> split <;> first | exact handS_nil _ | exact handS_of V.h0 | exact handS_of V.h1 | exact handS_of V.h2 | exact handS_of V.h3 | exact handS_of V.h4
theorem only_hand {p : Prg} {k : Nat} (hk : k < 5) : handP (onlyP p k) k = handP p k := by
  have : k = 0 ∨ k = 1 ∨ k = 2 ∨ k = 3 ∨ k = 4 := by omega
  rcases this with rfl | rfl | rfl | rfl | rfl <;> simp [handP, onlyP, onP]
theorem only_w {p : Prg} (k : Nat) :
    wSL (onlyP p k).on0 + wSL (onlyP p k).on1 + wSL (onlyP p k).on2 + wSL (onlyP p k).on3 + wSL (onlyP p k).on4 ≤ wSL p.on0 + wSL p.on1 + wSL p.on2 + wSL p.on3 + wSL p.on4 := by
  have z : wSL [] = 0 := rfl
  have h0 : wSL (if k = 0 then p.on0 else []) ≤ wSL p.on0 := by split <;> omega
  have h1 : wSL (if k = 1 then p.on1 else []) ≤ wSL p.on1 := by split <;> omega
  have h2 : wSL (if k = 2 then p.on2 else []) ≤ wSL p.on2 := by split <;> omega
  have h3 : wSL (if k = 3 then p.on3 else []) ≤ wSL p.on3 := by split <;> omega
  have h4 : wSL (if k = 4 then p.on4 else []) ≤ wSL p.on4 := by split <;> omega
  simp only [onlyP, onP]
  omega
/-- What a call of a small and valid program comes to. -/
abbrev runP (vs : List Vr) (l : List St) (st : List Int) (x : Cal) : Except Int (List Int) := runStL vs x.i0 x.i1 x.i2 x.i3 l st
end Go.Proofs.YtpfjlifneibhfaaGreat.AL
