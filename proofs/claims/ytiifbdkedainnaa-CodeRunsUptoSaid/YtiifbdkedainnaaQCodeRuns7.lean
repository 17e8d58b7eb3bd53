/- Part 7 of the proofs of seat Ytiifbdkedainnaa: what the texts behind it lean on (abstract memory, walks of functions, plain laws). -/
import Derived.Test.YtiifbdkedainnaaM6

set_option maxHeartbeats 8000000
set_option maxRecDepth 100000
set_option linter.unusedVariables false
set_option linter.unusedSimpArgs false
set_option linter.unusedSectionVars false
namespace Go.Proofs.Ytiifbdkedainnaa.Y
open Go.Proofs.Ytiifbdkedainnaa.AL Go.Proofs Go
attribute [local irreducible] AWP AWL AWG AWR AWE AWX AWO AWSeq AWSG AWSR AWSO AWSE AWSF GoodP OGW OGR OGE OGX PGW PGR PGE Wk AWLoop AWPD AWLD

theorem verC_all {c : Cod} {vars : Int} (h : verC c vars = true) : verH c.c0 vars = true ∧ verH c.c1 vars = true ∧ verH c.c2 vars = true ∧ verH c.c3 vars = true ∧ verH c.c4 vars = true := by
  simp only [verC, Bool.and_eq_true] at h
  exact h.2
theorem insOk_jump {x : Ins} {i len vars : Int} (h : insOk x i len vars = true) (h2 : x.op = 12 ∨ x.op = 13) : i < x.n ∧ x.n ≤ len := by
  unfold insOk at h
  rcases h2 with h2 | h2
  · rw [if_pos h2] at h; simp at h; omega
  · rw [if_neg (by omega), if_neg (by omega), if_neg (by omega), if_neg (by omega), if_pos h2] at h; simp at h; omega
theorem CodeRuns_run (c : Cod) (vars event : Int) (ways : List Bool) (hw0 : 0 ≤ event) (hw1 : event ≤ 255) (hwl : ways.length ≤ 2000000) (H0 : List AObj) :
    ARun Try.prog 5 [agC c, .i vars, .pv (.sc (.int .u8 event)), .rs 1 (ways.map fun b => [.sc (.bool b)])] H0 (.ret (.b true) H0) := by
  have hh := fun H0 => head9_run H0
  have hs := fun H0 => RShort9_run c 4000 H0
  have hwc : IntKind.i64.wrap event = event := wrap_of (by omega) (by omega)
  have hk : event.tmod 5 = 0 ∨ event.tmod 5 = 1 ∨ event.tmod 5 = 2 ∨ event.tmod 5 = 3 ∨ event.tmod 5 = 4 := by rw [Int.tmod_eq_emod_of_nonneg hw0]; omega
  cases hsh : shortS c 4000 with
  | false =>
    simp only [hsh] at hs
    rcases hk with hk | hk | hk | hk | hk
    all_goals
      (refine ARun.intro Try.func5 rfl Try.call5 Try.ntmps5 Try.results5 ?_; simp only [List.length_cons, List.length_nil, List.length_map, Nat.reduceAdd, Nat.reduceSub, List.replicate_succ, List.replicate_zero, List.cons_append, List.nil_append])
      (have ww1 := hwc; have ww2 := hk; have cc1 := fun z1 => hh z1; have cc2 := fun z1 => hs z1; refine wk ?_; clear ww1 ww2 cc1 cc2; (repeat' first | exact True.intro | refine Lf.mk ?_ ?_); all_goals intro hP)
      (refine resX ?_; try exact True.intro)
  | true =>
    simp only [hsh] at hs
    have v1 := fun H0 => CVerify_run c vars (shortS_fine hsh (by omega)) H0
    cases hver : verC c vars with
    | false =>
      rw [hver] at v1
      rcases hk with hk | hk | hk | hk | hk
      all_goals
        (refine ARun.intro Try.func5 rfl Try.call5 Try.ntmps5 Try.results5 ?_; simp only [List.length_cons, List.length_nil, List.length_map, Nat.reduceAdd, Nat.reduceSub, List.replicate_succ, List.replicate_zero, List.cons_append, List.nil_append])
        (have ww1 := hwc; have ww2 := hk; have cc1 := fun z1 => hh z1; have cc2 := fun z1 => hs z1; have cc3 := fun z1 => v1 z1; refine wk ?_; clear ww1 ww2 cc1 cc2 cc3; (repeat' first | exact True.intro | refine Lf.mk ?_ ?_); all_goals intro hP)
        (refine resX ?_; try exact True.intro)
    | true =>
      rw [hver] at v1
      obtain ⟨r0, r1, r2, r3, r4⟩ := verC_all hver
      obtain ⟨l, hvl, hkl⟩ : ∃ l, verH l vars = true ∧ ((event.tmod 5 = 0 ∧ c.c0 = l) ∨ (event.tmod 5 = 1 ∧ c.c1 = l) ∨ (event.tmod 5 = 2 ∧ c.c2 = l) ∨ (event.tmod 5 = 3 ∧ c.c3 = l) ∨ (event.tmod 5 = 4 ∧ c.c4 = l)) := by
        rcases hk with hk | hk | hk | hk | hk
        · exact ⟨_, r0, .inl ⟨hk, rfl⟩⟩
        · exact ⟨_, r1, .inr (.inl ⟨hk, rfl⟩)⟩
        · exact ⟨_, r2, .inr (.inr (.inl ⟨hk, rfl⟩))⟩
        · exact ⟨_, r3, .inr (.inr (.inr (.inl ⟨hk, rfl⟩)))⟩
        · exact ⟨_, r4, .inr (.inr (.inr (.inr ⟨hk, rfl⟩)))⟩
      obtain ⟨ht, hc⟩ := verH_cert hvl
      clear hk hvl
      obtain ⟨C0, C1, C2, C3, C4⟩ := c
      rcases hkl with ⟨hk, hl⟩ | ⟨hk, hl⟩ | ⟨hk, hl⟩ | ⟨hk, hl⟩ | ⟨hk, hl⟩
      all_goals
        simp only at hl
        replace hl := hl.symm
        subst hl
        have lw : (l.map encI).length = l.length := List.length_map encI
        have l4 := hc.len
        (refine ARun.intro Try.func5 rfl Try.call5 Try.ntmps5 Try.results5 ?_; simp only [List.length_cons, List.length_nil, List.length_map, Nat.reduceAdd, Nat.reduceSub, List.replicate_succ, List.replicate_zero, List.cons_append, List.nil_append])
        (have ww1 := hwc; have ww2 := hk; have cc1 := fun z1 => hh z1; have cc2 := fun z1 => hs z1; have cc3 := fun z1 => v1 z1; refine wk ?_; clear ww1 ww2 cc1 cc2 cc3; (repeat' first | exact True.intro | refine Lf.mk ?_ ?_); all_goals intro hP)
        refine awp_loop_ind (σ := Nat × Nat × Int × Nat) (fun s => l.length - s.1) (fun s => s.1 ≤ s.2.1 ∧ s.2.1 ≤ l.length ∧ s.2.2.1 = ht s.2.1 ∧ 0 ≤ s.2.2.1 ∧ s.2.2.1 ≤ 64 ∧ s.2.2.2 ≤ s.1)
          (fun s => (.any :: .any :: .any :: (.rs 1 (ways.map fun b => [.sc (.bool b)])) :: .any :: .any :: .any :: .any :: .any :: .b true :: .rs 3 (l.map encI) :: .i s.2.1 :: .i s.2.2.1 :: .i s.2.2.2 :: .any :: .any :: .any :: .any :: .any :: .any :: .any :: .any :: .any :: .any :: .any :: .any :: .any :: .any :: .any :: .any :: .any :: .any :: .any :: .any :: .any :: .i l.length :: .i s.1 :: .any :: .any :: .any :: .any :: .any :: .any :: .any :: .any :: .any :: .any :: .any :: .any :: .any :: .any :: .any :: .any :: .any :: .any :: .any :: .any :: .any :: .any :: .any :: .any :: .any :: .any :: .any :: .any :: .any :: .any :: .any :: .any :: .any :: .any :: .any :: .any :: .any :: .any :: .any :: .any :: .any :: .any :: .any :: .any :: .any :: .any :: .any :: .any :: .any :: .any :: .any :: .any :: .any :: .any :: .any :: .any :: .any :: .any :: .any :: .any :: .any :: .any :: .any :: .any :: .any :: .any :: .any :: .any :: .any :: []))
          (fun s => H0) (0, 0, 0, 0) ⟨Nat.le_refl _, Nat.zero_le _, hc.zero.symm, Int.le_refl _, by simp, Nat.le_refl _⟩ (by (refine dropX ?_; try exact True.intro)) ?_
        rintro ⟨i, pc, h, asked⟩ ⟨i1, i2, i3, i4, i5, i6⟩
        simp only at i1 i2 i3 i4 i5 i6 ⊢
        by_cases hend : pc = l.length
        · subst hend
          have h0 : h = 0 := by rw [i3]; exact hc.last
          subst h0
          (have ww1 := lw; refine wkO ?_; clear ww1; (repeat' first | exact True.intro | refine Lf.mk ?_ ?_); all_goals intro hP)
          all_goals ((refine resX ?_; try exact True.intro))
        · have hlt : pc < l.length := by omega
          have hx : l[pc]? = some l[pc] := List.getElem?_eq_getElem hlt
          have ca := hc.at' pc l[pc] hx
          have hx' : (l.map encI)[pc]? = some (cI l[pc]) := by rw [List.getElem?_map, hx]; rfl
          generalize l[pc] = x at *
          obtain ⟨op, nn, rel⟩ := x
          have ht1 := ca.tk
          have ht2 := ca.pt
          have ht3 := ca.nxt
          have ht4 := ca.jmp
          have hj := insOk_jump ca.ok
          have htk := takes_nn op
          have htp := puts_nn op
          have htk2 : takes op ≤ 2 := by unfold takes; split <;> (try split) <;> omega
          have htp2 : puts op ≤ 1 := by unfold puts; split <;> omega
          simp only at ht1 ht2 ht3 ht4 hj
          rw [← i3] at ht1 ht2 ht3 ht4
          have c9 := fun H => RTakes_run op (insOk_op ca.ok) H
          have hw : IntKind.i64.wrap ((i : Int) + 1) = ((i + 1 : Nat) : Int) := by rw [wrap_of (by omega) (by omega)]; omega
          have hwp : IntKind.i64.wrap ((pc : Int) + 1) = ((pc + 1 : Nat) : Int) := by rw [wrap_of (by omega) (by omega)]; omega
          have hwa : IntKind.i64.wrap ((asked : Int) + 1) = ((asked + 1 : Nat) : Int) := by rw [wrap_of (by omega) (by omega)]; omega
          have e1 : IntKind.i64.wrap (puts op - takes op) = puts op - takes op := wrap_of (by omega) (by omega)
          have e2 : IntKind.i64.wrap (h + (puts op - takes op)) = h + (puts op - takes op) := wrap_of (by omega) (by omega)
          generalize takes op = tk at *
          generalize puts op = pt at *
          clear ca hs v1 hver r0 r1 r2 r3 r4 hsh hh htk htk2 htp2
          have hpt : h + (pt - tk) = h - tk + pt := by omega
          by_cases o12 : op = 12
          · obtain ⟨j1, j2⟩ := hj (.inl o12)
            obtain ⟨m, rfl⟩ : ∃ m : Nat, nn = m := ⟨nn.toNat, by omega⟩
            rw [Int.toNat_natCast] at ht4
            have q4 := ht4 (.inl o12)
            have q3 := ht3 (by omega)
            clear ht3 ht4 hj
            by_cases ha : asked < ways.length
            · have hwy : (ways.map fun b => [PV.sc (.bool b)])[asked]? = some [.sc (.bool ways[asked])] := by rw [List.getElem?_map, List.getElem?_eq_getElem ha]; rfl
              cases hb : ways[asked] with
              | true =>
                rw [hb] at hwy
                (have ww1 := lw; have ww2 := hx'; have ww3 := hwy; have ww4 := hw; have ww5 := hwp; have ww6 := hwa; have ww7 := e1; have ww8 := e2; have cc1 := fun z1 => c9 z1; refine wkO ?_; clear ww1 ww2 ww3 ww4 ww5 ww6 ww7 ww8 cc1; (repeat' first | exact True.intro | refine Lf.mk ?_ ?_); all_goals intro hP)
                refine ⟨(i + 1, m, h + (pt - tk), asked + 1), by simp only; omega, ⟨by simp only; omega, by simp only; omega, by simp only; omega, by simp only; omega, by simp only; omega, by simp only; omega⟩, ?_⟩
                (refine dropX ?_; try exact True.intro)
              | false =>
                rw [hb] at hwy
                (have ww1 := lw; have ww2 := hx'; have ww3 := hwy; have ww4 := hw; have ww5 := hwp; have ww6 := hwa; have ww7 := e1; have ww8 := e2; have cc1 := fun z1 => c9 z1; refine wkO ?_; clear ww1 ww2 ww3 ww4 ww5 ww6 ww7 ww8 cc1; (repeat' first | exact True.intro | refine Lf.mk ?_ ?_); all_goals intro hP)
                refine ⟨(i + 1, pc + 1, h + (pt - tk), asked + 1), by simp only; omega, ⟨by simp only; omega, by simp only; omega, by simp only; omega, by simp only; omega, by simp only; omega, by simp only; omega⟩, ?_⟩
                (refine dropX ?_; try exact True.intro)
            · (have ww1 := lw; have ww2 := hx'; have ww3 := hw; have ww4 := hwp; have ww5 := hwa; have ww6 := e1; have ww7 := e2; have cc1 := fun z1 => c9 z1; refine wkO ?_; clear ww1 ww2 ww3 ww4 ww5 ww6 ww7 cc1; (repeat' first | exact True.intro | refine Lf.mk ?_ ?_); all_goals intro hP)
              refine ⟨(i + 1, pc + 1, h + (pt - tk), asked + 1), by simp only; omega, ⟨by simp only; omega, by simp only; omega, by simp only; omega, by simp only; omega, by simp only; omega, by simp only; omega⟩, ?_⟩
              (refine dropX ?_; try exact True.intro)
          · by_cases o13 : op = 13
            · obtain ⟨j1, j2⟩ := hj (.inr o13)
              obtain ⟨m, rfl⟩ : ∃ m : Nat, nn = m := ⟨nn.toNat, by omega⟩
              rw [Int.toNat_natCast] at ht4
              have q4 := ht4 (.inr o13)
              clear ht3 ht4 hj
              (have ww1 := lw; have ww2 := hx'; have ww3 := hw; have ww4 := hwp; have ww5 := hwa; have ww6 := e1; have ww7 := e2; have cc1 := fun z1 => c9 z1; refine wkO ?_; clear ww1 ww2 ww3 ww4 ww5 ww6 ww7 cc1; (repeat' first | exact True.intro | refine Lf.mk ?_ ?_); all_goals intro hP)
              refine ⟨(i + 1, m, h + (pt - tk), asked), by simp only; omega, ⟨by simp only; omega, by simp only; omega, by simp only; omega, by simp only; omega, by simp only; omega, by simp only; omega⟩, ?_⟩
              (refine dropX ?_; try exact True.intro)
            · have q3 := ht3 o13
              clear ht3 ht4 hj
              (have ww1 := lw; have ww2 := hx'; have ww3 := hw; have ww4 := hwp; have ww5 := hwa; have ww6 := e1; have ww7 := e2; have cc1 := fun z1 => c9 z1; refine wkO ?_; clear ww1 ww2 ww3 ww4 ww5 ww6 ww7 cc1; (repeat' first | exact True.intro | refine Lf.mk ?_ ?_); all_goals intro hP)
              refine ⟨(i + 1, pc + 1, h + (pt - tk), asked), by simp only; omega, ⟨by simp only; omega, by simp only; omega, by simp only; omega, by simp only; omega, by simp only; omega, by simp only; omega⟩, ?_⟩
              (refine dropX ?_; try exact True.intro)
end Go.Proofs.Ytiifbdkedainnaa.Y
