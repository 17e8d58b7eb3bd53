/- Part 7 of the proofs of seat Ytiifbdkedainnaa: what the texts behind it lean on (abstract memory, walks of functions, plain laws). -/
import Derived.Test.YtiifbdkedainnaaM6

/- A row of one's own that is given away. -/
set_option linter.unusedVariables false
set_option linter.unusedSectionVars false
namespace Go.Proofs.Ytiifbdkedainnaa.AL
variable [G : GTab]
theorem toPV_osm {H L : List AObj} {k t sz n d m : Nat} {rows : List (List PV)} (hm : m ≤ H.length + k) (h : L[k]? = some (.arr t sz (pvRows rows))) (hn : rows.length = n) :
    (AV.os (H.length + k) 0 n n).toPV (H ++ L) m (d + 1) = some (.rs sz rows) := by
  subst hn
  simp only [AV.toPV, List.getElem?_append_right (Nat.le_add_right _ _), Nat.add_sub_cancel_left, h, pvRows_len, hm, and_self, if_true, List.drop_zero]
  rw [List.take_of_length_le (by rw [pvRows_len]; exact Nat.le_refl _)]
  unfold pvRows
  rw [toPVs_pvs]
  rfl
theorem low_osm {H L : List AObj} {k t sz n d m : Nat} {rows : List (List PV)} (hm : m ≤ H.length + k) (h : L[k]? = some (.arr t sz (pvRows rows))) (hn : rows.length = n) :
    (AV.os (H.length + k) 0 n n).low (H ++ L) m (d + 1) = .pv (.rs sz rows) := by
  rw [AV.low, if_neg (by omega), toPV_osm hm h hn]
end Go.Proofs.Ytiifbdkedainnaa.AL

/- One row of one's own that is given away with a call, wherever it lies. -/
set_option linter.unusedVariables false
set_option linter.unusedSectionVars false
namespace Go.Proofs.Ytiifbdkedainnaa.AL
variable [G : GTab]
section
variable {w : World} {B : BMap} {S : Nat → Prop} {H : List AObj} {i : Nat}
/-- A value behind the giving away of row i. -/
def AV.frz (i sz : Nat) (rows : List (List PV)) : AV → AV
  | .os id off len ext => if id = i then (if off = 0 ∧ len = rows.length ∧ ext = rows.length then .pv (.rs sz rows) else .any) else .os id off len ext
  | .agg cs => .agg (cs.map fun c => c.frz i sz rows)
  | .tup cs => .tup (cs.map fun c => c.frz i sz rows)
  | a => a
/-- The blocks that are written no more. -/
def Plus (B : BMap) (S : Nat → Prop) (i : Nat) : Nat → Prop := fun b => S b ∨ ∃ c, B i = some (b, c)
theorem set_dead {j : Nat} {o : AObj} (h : (H.set i .dead)[j]? = some o) : (j = i ∧ o = .dead) ∨ (j ≠ i ∧ H[j]? = some o) := by
  by_cases e : j = i
  · subst e
    rw [List.getElem?_set_self'] at h
    cases hx : H[j]? with
    | none => rw [hx] at h; cases h
    | some x => rw [hx] at h; simp at h; exact .inl ⟨rfl, h.symm⟩
  · rw [List.getElem?_set_ne (fun x => e x.symm)] at h
    exact .inr ⟨e, h⟩
theorem frz_step {t sz : Nat} {rows : List (List AV)} (hi : H[i]? = some (.arr t sz rows)) : Step w B S H w B (Plus B S i) (H.set i .dead) := by
  refine ⟨rfl, rfl, rfl, Nat.le_refl _, fun b hb => .inl hb, fun _ _ => rfl, by simp, ?_, ?_⟩
  · intro id t' sz' rows' h
    by_cases e : id = i
    · subst e
      refine .inl (fun t2 sz2 rows2 e2 => ?_)
      rcases set_dead e2 with ⟨_, h2⟩ | ⟨h2, _⟩
      · cases h2
      · exact h2 rfl
    · exact .inr ⟨rows', by rw [List.getElem?_set_ne (fun x => e x.symm)]; exact h, Nat.le_refl _, fun _ => rfl⟩
  · intro id hid hna
    refine ⟨rfl, fun t2 sz2 rows2 e2 => ?_⟩
    rcases set_dead e2 with ⟨_, h2⟩ | ⟨_, h2⟩
    · cases h2
    · exact hna _ _ _ h2
theorem frz_hrel (hr : HRel w B S H) {t sz : Nat} {rows : List (List AV)} (hi : H[i]? = some (.arr t sz rows)) : HRel w B (Plus B S i) (H.set i .dead) := by
  have st := frz_step (w := w) (B := B) (S := S) hi
  have hil := (List.getElem?_eq_some_iff.1 hi).1
  have live : ∀ j, j < (H.set i .dead).length → (H.set i .dead)[j]? ≠ some .dead → j ≠ i ∧ j < H.length ∧ H[j]? ≠ some .dead := by
    intro j hj hd
    have hx := List.getElem?_eq_getElem hj
    rcases set_dead hx with ⟨_, h2⟩ | ⟨h1, h2⟩
    · rw [hx, h2] at hd; exact absurd rfl hd
    · refine ⟨h1, by simpa using hj, ?_⟩
      rw [List.getElem?_set_ne (fun x => h1 x.symm)] at hd
      exact hd
  refine ⟨?_, ?_, ?_, ?_, hr.glob.mono (fun _ h => .inl h) (fun _ _ => rfl)⟩
  · intro id o ho
    rcases set_dead ho with ⟨_, h2⟩ | ⟨_, h2⟩
    · subst h2; trivial
    · exact (hr.obj id o h2).keep st rfl (fun _ _ _ => rfl)
  · intro a b x c d ha hb hda hdb h1 h2
    obtain ⟨_, a1, a2⟩ := live a ha hda
    obtain ⟨_, b1, b2⟩ := live b hb hdb
    exact hr.inj a b x c d a1 b1 a2 b2 h1 h2
  · intro a b c ha hd hB hS
    obtain ⟨a0, a1, a2⟩ := live a ha hd
    rcases hS with hS | ⟨c', hB'⟩
    · exact hr.sep a b c a1 a2 hB hS
    · exact a0 (hr.inj a i b c c' a1 hil a2 (by rw [hi]; simp) hB hB')
  · intro b hb
    rcases hb with hb | ⟨c', hB'⟩
    · exact hr.bound b hb
    · exact hr.lt hil (by rw [hi]; simp) hB'
/-- What is behind i may be forgotten. -/
theorem cut_step : Step w B S H w B S (H.take (i + 1) ++ (H.drop (i + 1)).map fun _ => AObj.dead) := by
  have e : H = H.take (i + 1) ++ H.drop (i + 1) := (List.take_append_drop _ _).symm
  refine ⟨rfl, rfl, rfl, Nat.le_refl _, fun b hb => hb, fun _ _ => rfl, by simp; omega, ?_, ?_⟩
  · intro id t sz rows h
    rcases Nat.lt_or_ge id (H.take (i + 1)).length with hi | hi
    · refine .inr ⟨rows, ?_, Nat.le_refl _, fun _ => rfl⟩
      rw [List.getElem?_append_left hi]
      rw [e, List.getElem?_append_left hi] at h
      exact h
    · refine .inl (fun t' sz' rows' e' => ?_)
      rcases deads_get e' with ⟨h1, _⟩ | ⟨_, h2⟩
      · omega
      · cases h2
  · intro id hid hna
    refine ⟨rfl, fun t sz rows e' => ?_⟩
    rcases deads_get e' with ⟨h1, h2⟩ | ⟨_, h2⟩
    · refine hna t sz rows ?_
      rw [e, List.getElem?_append_left h1]; exact h2
    · cases h2
theorem cut_hrel (hr : HRel w B S H) : HRel w B S (H.take (i + 1) ++ (H.drop (i + 1)).map fun _ => AObj.dead) := by
  have st := cut_step (w := w) (B := B) (S := S) (H := H) (i := i)
  have e : H = H.take (i + 1) ++ H.drop (i + 1) := (List.take_append_drop _ _).symm
  have up : ∀ {j : Nat} {o : AObj}, j < (H.take (i + 1)).length → (H.take (i + 1))[j]? = some o → H[j]? = some o := fun {j o} h1 h2 => by rw [e, List.getElem?_append_left h1]; exact h2
  have live : ∀ j, j < (H.take (i + 1) ++ (H.drop (i + 1)).map fun _ => AObj.dead).length → (H.take (i + 1) ++ (H.drop (i + 1)).map fun _ => AObj.dead)[j]? ≠ some .dead → j < H.length ∧ H[j]? ≠ some .dead := by
    intro j hj hd
    have hx := List.getElem?_eq_getElem hj
    rcases deads_get hx with ⟨h1, h2⟩ | ⟨_, h2⟩
    · have h3 := up h1 h2
      refine ⟨(List.getElem?_eq_some_iff.1 h3).1, ?_⟩
      rw [h3, ← hx]; exact hd
    · rw [hx, h2] at hd; exact absurd rfl hd
  refine ⟨?_, ?_, ?_, hr.bound, hr.glob⟩
  · intro id o ho
    rcases deads_get ho with ⟨h1, h2⟩ | ⟨_, h2⟩
    · exact (hr.obj id o (up h1 h2)).keep st rfl (fun _ _ _ => rfl)
    · subst h2; trivial
  · intro a b x c d ha hb hda hdb h1 h2
    obtain ⟨a1, a2⟩ := live a ha hda
    obtain ⟨b1, b2⟩ := live b hb hdb
    exact hr.inj a b x c d a1 b1 a2 b2 h1 h2
  · intro a b c ha hd hB
    obtain ⟨a1, a2⟩ := live a ha hd
    exact hr.sep a b c a1 a2 hB
theorem frz_os (hr : HRel w B S H) {t sz : Nat} {rows : List (List PV)} (hi : H[i]? = some (.arr t sz (pvRows rows))) {v : Value} (h : ARel w B S H (.os i 0 rows.length rows.length) v) : PRel w (Plus B S i) (.rs sz rows) v := by
  have hil := (List.getElem?_eq_some_iff.1 hi).1
  have h1 := h.mono (cut_step (w := w) (B := B) (S := S) (H := H) (i := i))
  have hr1 := cut_hrel (i := i) hr
  generalize hH : H.take (i + 1) ++ (H.drop (i + 1)).map (fun _ => AObj.dead) = H' at *
  have hi' : H'[i]? = some (.arr t sz (pvRows rows)) := by
    rw [← hH, List.getElem?_append_left (by simp; omega), List.getElem?_take, if_pos (by omega)]; exact hi
  have hil' := (List.getElem?_eq_some_iff.1 hi').1
  have h2 := low_rel (n := 1) hr1 (m := i) (Nat.le_of_lt hil') h1
  have hsplit : H' = H'.take i ++ H'.drop i := (List.take_append_drop _ _).symm
  have hlt : (H'.take i).length = i := by simp; omega
  have e : (AV.os i 0 rows.length rows.length).low H' i 1 = .pv (.rs sz rows) := by
    have := low_osm (H := H'.take i) (L := H'.drop i) (k := 0) (t := t) (sz := sz) (d := 0) (m := i) (n := rows.length) (rows := rows) (by omega) (by rw [List.getElem?_drop, Nat.add_zero]; exact hi') rfl
    rw [hlt, ← hsplit, Nat.add_zero] at this
    exact this
  rw [e] at h2
  cases h2 with
  | pv h3 =>
    refine h3.mono (fun b hb => ?_) (fun _ _ => rfl)
    rcases hb with hb | ⟨j, c, hj, hjl, hjd, hjB⟩
    · exact .inl hb
    · by_cases e : j = i
      · subst e; exact .inr ⟨c, hjB⟩
      · exfalso
        have hx := List.getElem?_eq_getElem hjl
        generalize H'[j] = o at hx
        rw [← hH] at hx
        rcases deads_get hx with ⟨q, _⟩ | ⟨_, q⟩
        · simp at q; omega
        · rw [hH] at hx; rw [hx] at hjd
          exact hjd (by rw [q])
theorem frz_rel (hr : HRel w B S H) {t sz : Nat} {rows : List (List PV)} (hi : H[i]? = some (.arr t sz (pvRows rows))) {a : AV} {v : Value} (h : ARel w B S H a v) : ARel w B (Plus B S i) (H.set i .dead) (a.frz i sz rows) v := by
  have st := frz_step (w := w) (B := B) (S := S) hi
  have lists : ∀ {cs : List AV} {vs : List Value}, (∀ (j : Nat) (c : AV) (v : Value), cs[j]? = some c → vs[j]? = some v → ARel w B (Plus B S i) (H.set i .dead) (c.frz i sz rows) v) →
      ∀ (j : Nat) (c : AV) (v : Value), (cs.map fun c => c.frz i sz rows)[j]? = some c → vs[j]? = some v → ARel w B (Plus B S i) (H.set i .dead) c v := by
    intro cs vs h j c v hc hv
    simp only [List.getElem?_map, Option.map_eq_some_iff] at hc
    obtain ⟨c', hc, rfl⟩ := hc
    exact h j c' v hc hv
  induction h with
  | @os id off len ext v hid h1 hl =>
    have h : ARel w B S H (.os id off len ext) v := ARel.os hid h1 hl
    simp only [AV.frz]
    split
    · rename_i e
      subst e
      split
      · rename_i e2
        obtain ⟨rfl, rfl, rfl⟩ := e2
        exact .pv (frz_os hr hi h)
      · exact .any
    · exact h.mono st
  | agg hl h1 h ih => simp only [AV.frz]; exact .agg (by simpa using hl) h1 (lists ih)
  | tup hl h ih => simp only [AV.frz]; exact .tup (by simpa using hl) (lists ih)
  | any => simp only [AV.frz]; exact .any
  | pv h => simp only [AV.frz]; exact (ARel.pv h).mono st
  | p hb hid hk => simp only [AV.frz]; exact (ARel.p hb hid hk).mono st
  | op hid h1 hl => simp only [AV.frz]; exact (ARel.op hid h1 hl).mono st
  | rp h => simp only [AV.frz]; exact (ARel.rp h).mono st
  | fn hf hc h k ih ik => simp only [AV.frz]; exact (ARel.fn hf hc h k).mono st
  | ifc h ih => simp only [AV.frz]; exact (ARel.ifc h).mono st
  | mp hb hid hk => simp only [AV.frz]; exact (ARel.mp hb hid hk).mono st
end
/-- A function may be given a row of one's own: it is gone then. -/
theorem ARun.frz {P : Program} {f : FuncId} {args args' : List AV} {v : AV} {H : List AObj} {t sz : Nat} {rows : List (List PV)} (i : Nat) (hi : H[i]? = some (.arr t sz (pvRows rows)))
    (h : ARun P f args' (H.set i .dead) (.ret v (H.set i .dead))) (ha : CvL (args.map fun c => c.frz i sz rows) args') : ARun P f args H (.ret v (H.set i .dead)) := by
  refine ⟨h.call, fun w B S vs hr hargs => ?_⟩
  have st0 := frz_step (w := w) (B := B) (S := S) hi
  have ha0 : ARelL w B (Plus B S i) (H.set i .dead) args' vs := by
    obtain ⟨g1, g2⟩ := ha.get
    refine ⟨by rw [← g1, List.length_map]; exact hargs.1, fun j c v hc hv => ?_⟩
    obtain ⟨c1, hc1, hcv⟩ := g2 j c hc
    simp only [List.getElem?_map, Option.map_eq_some_iff] at hc1
    obtain ⟨c', hc, rfl⟩ := hc1
    exact hcv _ _ _ _ _ (frz_rel hr hi (hargs.2 j c' v hc hv))
  refine (h.run w B _ vs (frz_hrel hr hi) ha0).mono ?_
  rintro e w' ⟨B', S', st, hr', he⟩
  exact ⟨B', S', st0.trans st, hr', he⟩
end Go.Proofs.Ytiifbdkedainnaa.AL

set_option maxHeartbeats 8000000
set_option maxRecDepth 100000
set_option linter.unusedVariables false
set_option linter.unusedSimpArgs false
set_option linter.unusedSectionVars false
namespace Go.Proofs.Ytiifbdkedainnaa.Y
open Go.Proofs.Ytiifbdkedainnaa.AL Go.Proofs Go
attribute [local irreducible] AWP AWL AWG AWR AWE AWX AWO AWSeq AWSG AWSR AWSO AWSE AWSF GoodP OGW OGR OGE OGX PGW PGR PGE Wk AWLoop AWPD AWLD
theorem dr7_4_X21e : Drawn Try.prog 4 (regOps 4 ((Try.f7.body).getD .skip)) [] [] [.win [0], .win [0], .win [0], .win [0], .win [0], .win [0], .win [0], .win [0], .win [0], .win [0], .win [0], .win [0], .win [0], .win [0]] 0 [] := ⟨rfl, by as_aux_lemma => kernel_rfl⟩

theorem insOk_jumpP {x : Ins} {i len vars : Int} (h : insOk x i len vars = true) (h2 : x.op = 12 ∨ x.op = 13) : i < x.n ∧ x.n ≤ len := by
  unfold insOk at h
  rcases h2 with h2 | h2
  · rw [if_pos h2] at h; simp at h; omega
  · rw [if_neg (by omega), if_neg (by omega), if_neg (by omega), if_neg (by omega), if_pos h2] at h; simp at h; omega
theorem comp_onP {p : Prg} (h : validB p = true) : compS p = (if (codeSs p.on0 0).length ≤ 4000 ∧ (codeSs p.on1 0).length ≤ 4000 ∧ (codeSs p.on2 0).length ≤ 4000 ∧ (codeSs p.on3 0).length ≤ 4000 ∧ (codeSs p.on4 0).length ≤ 4000
      then (⟨codeSs p.on0 0, codeSs p.on1 0, codeSs p.on2 0, codeSs p.on3 0, codeSs p.on4 0⟩, 0) else (cod0, 2)) := by unfold compS; rw [if_pos h]
/-- One handler alone: for a list that lies anywhere. -/
theorem with_run (p : Prg) (l : List St) (H0 : List AObj) : ARun Try.prog 21 [.ag (cP p), .rs 13 (l.map encS)] H0 (.ret (.ag (cP (withP p l))) H0) := by
  show ARun Try.prog 21 [.ag (cP p), .rs 13 (l.map encS)] H0 (.ret (.agg [.pv (.sc (.string p.name)), .rs 5 (p.vars.map encV), .rs 13 (l.map encS), .rs 13 [], .rs 13 [], .rs 13 [], .rs 13 [], .i p.window, .i p.pace]) H0)
  (refine ARun.intro Try.func21 rfl Try.call21 Try.ntmps21 Try.results21 ?_; simp only [List.length_cons, List.length_nil, List.length_map, Nat.reduceAdd, Nat.reduceSub, List.replicate_succ, List.replicate_zero, List.cons_append, List.nil_append])
  (refine wk ?_; (repeat' first | exact True.intro | refine Lf.mk ?_ ?_); all_goals intro hP)
  (refine resC ?_; (repeat' (first | exact True.intro | refine Lf.mk ?_ ?_)))
  (repeat' (first | exact trivial | exact Cv.refl _ | exact Cv.nil (Nat.succ_pos _) | exact PCv.refl _ | exact PCv.nil (Nat.succ_pos _) | refine And.intro ?_ ?_ | refine Cv.agg ?_ | refine Cv.tup ?_ | refine Cv.pv (PCv.rs ?_) | refine PCv.rs ?_))
abbrev sR (l : List St) : List (List AV) := pvRows (l.map encS)
theorem sR_app (a b : List St) : sR a ++ (b.map encS).map (fun r => r.map AV.pv) = sR (a ++ b) := by simp [pvRows]
theorem sR_len (a : List St) : (sR a).length = a.length := by simp [pvRows]
/-- .. and for a list of one's own, which is given away. -/
theorem with_own (p : Prg) (l : List St) (n : Nat) (hn : l.length = n) (id : Nat) (H : List AObj) (h : H[id]? = some (.arr 73 13 (sR l))) : ARun Try.prog 21 [.ag (cP p), .os id 0 n n] H
    (.ret (.ag (cP (withP p l))) (H.set id .dead)) := by
  subst hn
  refine ARun.frz (t := 73) (sz := 13) (rows := l.map encS) id h (with_run p l _) ?_
  simp only [List.map_cons, List.map_nil, AV.frz, List.length_map, and_self, if_true]
  exact ⟨Cv.refl _, Cv.refl _, trivial⟩
theorem wSL_app : ∀ a b : List St, wSL (a ++ b) = wSL a + wSL b
  | [], b => by simp [wSL]
  | x :: a, b => by simp only [List.cons_append, wSL, wSL_app a b]; omega
theorem getH {p : Prg} (k : Nat) (h : k < 5) : [AV.pv (.sc (.string p.name)), .rs 5 (p.vars.map encV), .rs 13 (p.on0.map encS), .rs 13 (p.on1.map encS), .rs 13 (p.on2.map encS), .rs 13 (p.on3.map encS), .rs 13 (p.on4.map encS), .i p.window, .i p.pace][2 + k]? = some (.rs 13 ((handP p k).map encS)) := by
  rcases (show k = 0 ∨ k = 1 ∨ k = 2 ∨ k = 3 ∨ k = 4 by omega) with rfl | rfl | rfl | rfl | rfl <;> rfl
theorem CodeParts_run (p : Prg) (one two : Int) (h10 : 0 ≤ one) (h11 : one ≤ 255) (h20 : 0 ≤ two) (h21 : two ≤ 255) (hp : PFine p) (H0 : List AObj) :
    ARun Try.prog 7 [.ag (cP p), .pv (.sc (.int .u8 one)), .pv (.sc (.int .u8 two))] H0 (.ret (.b true) H0) := by
  have hh := fun H0 => head9_run H0
  have hf := fun H0 => hp.few H0
  cases hfew : fewB5 p with
  | false =>
    simp only [hfew] at hf
    (refine ARun.intro Try.func7 rfl Try.call7 Try.ntmps7 Try.results7 ?_; simp only [List.length_cons, List.length_nil, List.length_map, Nat.reduceAdd, Nat.reduceSub, List.replicate_succ, List.replicate_zero, List.cons_append, List.nil_append])
    (have rr1 := dr7_4_X21e; have cc1 := fun z1 => hh z1; have cc2 := fun z1 => hf z1; refine wk ?_; clear rr1 cc1 cc2; (repeat' first | exact True.intro | refine Lf.mk ?_ ?_); all_goals intro hP)
    (refine resX ?_; try exact True.intro)
  | true =>
    simp only [hfew] at hf
    have cv := fun H0 => hp.rvalid H0
    cases hval : validB p with
    | false =>
      rw [hval] at cv
      (refine ARun.intro Try.func7 rfl Try.call7 Try.ntmps7 Try.results7 ?_; simp only [List.length_cons, List.length_nil, List.length_map, Nat.reduceAdd, Nat.reduceSub, List.replicate_succ, List.replicate_zero, List.cons_append, List.nil_append])
      (have rr1 := dr7_4_X21e; have cc1 := fun z1 => hh z1; have cc2 := fun z1 => hf z1; have cc3 := fun z1 => cv z1; refine wk ?_; clear rr1 cc1 cc2 cc3; (repeat' first | exact True.intro | refine Lf.mk ?_ ?_); all_goals intro hP)
      (refine resX ?_; try exact True.intro)
    | true =>
      rw [hval] at cv
      have hw1 : IntKind.i64.wrap one = one := wrap_of (by omega) (by omega)
      have hw2 : IntKind.i64.wrap two = two := wrap_of (by omega) (by omega)
      obtain ⟨k1, hk1, hk1'⟩ : ∃ k : Nat, one.tmod 5 = (k : Int) ∧ k < 5 := ⟨(one.tmod 5).toNat, by rw [Int.tmod_eq_emod_of_nonneg h10]; omega, by rw [Int.tmod_eq_emod_of_nonneg h10]; omega⟩
      obtain ⟨k2, hk2, hk2'⟩ : ∃ k : Nat, two.tmod 5 = (k : Int) ∧ k < 5 := ⟨(two.tmod 5).toNat, by rw [Int.tmod_eq_emod_of_nonneg h20]; omega, by rw [Int.tmod_eq_emod_of_nonneg h20]; omega⟩
      have g1 := getH (p := p) k1 hk1'
      have g2 := getH (p := p) k2 hk2'
      have b1 : (k1 : Int) < 5 := by omega
      have b2 : (k2 : Int) < 5 := by omega
      have d1 : 2 + (k1 + 1) ≤ 9 := by omega
      have d2 : 2 + (k2 + 1) ≤ 9 := by omega
      (refine ARun.intro Try.func7 rfl Try.call7 Try.ntmps7 Try.results7 ?_; simp only [List.length_cons, List.length_nil, List.length_map, Nat.reduceAdd, Nat.reduceSub, List.replicate_succ, List.replicate_zero, List.cons_append, List.nil_append])
      (have rr1 := dr7_4_X21e; have ww1 := hw1; have ww2 := hw2; have ww3 := hk1; have ww4 := hk2; have ww5 := b1; have ww6 := b2; have ww7 := d1; have ww8 := d2; have ww9 := g1; have ww10 := g2; have cc1 := fun z1 => hh z1; have cc2 := fun z1 => hf z1; have cc3 := fun z1 => cv z1; refine wk ?_; clear rr1 ww1 ww2 ww3 ww4 ww5 ww6 ww7 ww8 ww9 ww10 cc1 cc2 cc3; (repeat' first | exact True.intro | refine Lf.mk ?_ ?_); all_goals intro hP)
      have hfa := few5_all hfew
      obtain ⟨vs, V⟩ := validB_val hval
      have ha := val_hand V k1
      have hb := val_hand V k2
      have wa : ∀ k, wSL (handP p k) ≤ 3000 := fun k => by have := hfa.2.2.2; unfold handP; (repeat' split) <;> omega
      have wb1 := wa k1
      have wb2 := wa k2
      generalize handP p k1 = A at *
      generalize handP p k2 = B at *
      have lA : (A.map encS).length = A.length := List.length_map encS
      have lB : (B.map encS).length = B.length := List.length_map encS
      have hla : A.length ≤ 1000000 := by have := len_manyL A; omega
      have hlb : B.length ≤ 1000000 := by have := len_manyL B; omega
      have p1 : (A.map encS).map (fun r => r.map AV.pv) = sR A := rfl
      have p2 := sR_app A B
      have l1 := sR_len A
      have wt := fun (l : List St) (h : wSL l ≤ 6000) H => CCompile_run (withP p l) (by have := hfa.2.1; simp only [withP, onP]; omega) hp.z hp.zv (by simp only [withP, onP]; have z : wSL [] = 0 := rfl; omega) H
      have w1 := fun H => with_run p A H
      have w2 := fun H => with_run p B H
      have lAB : (A ++ B).length = A.length + B.length := List.length_append
      have w3 := fun (c : AObj) => with_own p (A ++ B) _ lAB (H0.length + 1) (H0 ++ [c, .arr 73 13 (sR (A ++ B))]) (getOk _ _ _)
      have w4 := fun (c d : AObj) => with_own p (A ++ B) _ lAB (H0.length + 2) (H0 ++ [c, d, .arr 73 13 (sR (A ++ B))]) (getOk _ _ _)
      have w5 := fun (c d : AObj) => with_own p (A ++ B) _ lAB (H0.length + 1) (H0 ++ [c, .arr 73 13 (sR (A ++ B)), d]) (getOk _ _ _)
      simp only [setOk, List.set_cons_succ, List.set_cons_zero] at w3 w4 w5
      have fA1 : A.length * 168 ≤ 140737488355328 := by omega
      have fA2 : A.length ≤ 9223372036854775807 := by omega
      have fB1 : (A.length + B.length) * 168 ≤ 140737488355328 := by omega
      have fB2 : A.length + B.length ≤ 9223372036854775807 := by omega
      have cA := fun H => wt A (by omega) H
      have cB := fun H => wt B (by omega) H
      have cAB := fun H => wt (A ++ B) (by rw [wSL_app]; omega) H
      refine awp_drawnO_c (id := 5) [1, 3, 5, 6, 7, 8] [([1, 3, 5, 6, 7, 8], [0, 1, 2, 3, 4, 5, 6, 7, 8], [.win [0, 1, 2, 3], .eff 0, .win [0, 1], .eff 1, .win [0, 1, 2], .eff 2, .eff 3, .eff 4, .eff 5]), ([1, 3, 5, 7, 6, 8], [0, 1, 2, 3, 4, 5, 7, 6, 8], [.win [0, 1, 2, 3, 4], .eff 0, .win [0, 1], .eff 1, .win [0, 1, 2], .eff 2, .eff 4, .eff 3, .eff 5]), ([1, 3, 7, 5, 6, 8], [0, 1, 2, 3, 4, 7, 5, 6, 8], [.win [0, 1, 2, 3, 4], .eff 0, .win [0, 1], .eff 1, .win [0, 1, 2, 3], .eff 3, .eff 4, .eff 2, .eff 5]), ([1, 7, 3, 5, 6, 8], [0, 1, 2, 4, 7, 3, 5, 6, 8], [.win [0, 1, 2, 3, 4], .eff 0, .win [0, 1, 2], .eff 2, .win [0, 1, 2, 3], .eff 3, .eff 4, .eff 1, .eff 5]), ([7, 1, 3, 5, 6, 8], [0, 2, 4, 7, 1, 3, 5, 6, 8], [.win [0, 1, 2, 3, 4], .eff 1, .win [0, 1, 2], .eff 2, .win [0, 1, 2, 3], .eff 3, .eff 4, .eff 0, .eff 5])] 6 rfl (by as_aux_lemma => kernel_rfl) ((.any :: .any :: .any :: .p H0.length 0 :: .any :: .any :: .any :: .b true :: .rs 13 (A.map encS) :: .rs 13 (B.map encS) :: .p (H0.length + 2) 0 :: .any :: .any :: .any :: .any :: .any :: .any :: .any :: .any :: .any :: .any :: .any :: .any :: .any :: .any :: .any :: .any :: .any :: .any :: .any :: .any :: .any :: .any :: .any :: .any :: .any :: .any :: .any :: .any :: .any :: .any :: .any :: .any :: .any :: .any :: .any :: .any :: .any :: .any :: .any :: .any :: .any :: .any :: .any :: .any :: .any :: .any :: .any :: .any :: .any :: .any :: .any :: .any :: .any :: .any :: .any :: .any :: .any :: .any :: .any :: .any :: .any :: .any :: .any :: .any :: .any :: .any :: .any :: .any :: .any :: .any :: .any :: .any :: .any :: .any :: .any :: .any :: .any :: .any :: .any :: .any :: .any :: .any :: .any :: .any :: .any :: .any :: .any :: .any :: .any :: .any :: .any :: .any :: .any :: .any :: .any :: .any :: .any :: .any :: .any :: .any :: .any :: .any :: .any :: .any :: .any :: .any :: .any :: .any :: .any :: .any :: .any :: .any :: .any :: .any :: .any :: .any :: .any :: .any :: .any :: .any :: .any :: .any :: .any :: .any :: .any :: .any :: .any :: []))
        (H0 ++ [.cells 26 ((cP p).map AV.pv), .dead, .cells 26 ((cP (withP p (A ++ B))).map AV.pv)]) (fun tm H wk h => by simp only [AEx.thn] at h ⊢; exact awp_wk wk h) ?_ (fun Kp W hW => ?_)
      · simp only [AEx.thn]
        have vA := with_valid hval V A
        have vB := with_valid hval V B
        have vAB := with_valid hval V (A ++ B)
        rw [decide_eq_true (handS_of ha)] at vA
        rw [decide_eq_true (handS_of hb)] at vB
        have cV := fun H => RValid_run (withP p (A ++ B)) (by
          have := manyL_append A B
          have z : manyL [] = 0 := rfl
          have := hfa.2.1
          simp only [fine1, withP, onP]
          omega) hp.z hp.zv H
        have eA := comp_onP vA
        have eB := comp_onP vB
        simp only [withP, onP, codeSs_nil, List.length_nil, Nat.zero_le, and_true] at eA eB
        have eA' : compS (withP p A) = if (codeSs A 0).length ≤ 4000 then (⟨codeSs A 0, [], [], [], []⟩, 0) else (cod0, 2) := eA
        have eB' : compS (withP p B) = if (codeSs B 0).length ≤ 4000 then (⟨codeSs B 0, [], [], [], []⟩, 0) else (cod0, 2) := eB
        rw [eA'] at cA
        rw [eB'] at cB
        clear eA eB eA' eB'
        by_cases hAB : handS vs (A ++ B) = 0
        · rw [decide_eq_true hAB] at vAB
          have eAB := comp_onP vAB
          simp only [withP, onP, codeSs_nil, List.length_nil, Nat.zero_le, and_true] at eAB
          have eAB' : compS (withP p (A ++ B)) = if (codeSs (A ++ B) 0).length ≤ 4000 then (⟨codeSs (A ++ B) 0, [], [], [], []⟩, 0) else (cod0, 2) := eAB
          rw [eAB'] at cAB
          rw [vAB] at cV
          have hj := codeSs_join (a := A) hb.1
          rw [hj] at cAB
          have hjl : (joinS (codeSs A 0) (codeSs B 0)).length = (codeSs A 0).length + (codeSs B 0).length := joinS_len
          have hver := fun h => code_ver hb.1 hb.2.1 h
          clear eAB eAB' hj vA vB vAB
          generalize codeSs A 0 = CA at *
          generalize codeSs B 0 = CB at *
          by_cases hl : CA.length + CB.length ≤ 4000
          · rw [if_pos (show CA.length ≤ 4000 by omega)] at cA
            rw [if_pos (show CB.length ≤ 4000 by omega)] at cB
            rw [if_pos (show (joinS CA CB).length ≤ 4000 by omega)] at cAB
            have q1 : (CA.map encI).map (fun r => r.map AV.pv) = pR CA := rfl
            have q2 := pR_len CA
            have q3 : (CA.map encI).length = CA.length := List.length_map encI
            have q4 : (CB.map encI).length = CB.length := List.length_map encI
            (have rr1 := dr7_4_X21e; have ww1 := q1; have ww2 := q2; have ww3 := q3; have ww4 := q4; have cc1 := fun z1 => w1 z1; have cc2 := fun z1 => w2 z1; have cc3 := fun z1 => cA z1; have cc4 := fun z1 => cB z1; have cc5 := fun z1 => cAB z1; have cc6 := fun z1 => cV z1; refine wkO ?_; clear rr1 ww1 ww2 ww3 ww4 cc1 cc2 cc3 cc4 cc5 cc6; (repeat' first | exact True.intro | refine Lf.mk ?_ ?_); all_goals intro hP)
            refine awp_loop_ind (σ := Nat) (fun k => CB.length - k) (fun k => k ≤ CB.length)
              (fun k => (.any :: .any :: .any :: .any :: .any :: .any :: .any :: .b true :: .any :: .any :: .any :: .any :: .any :: .any :: .any :: .p (H0.length + 5) 0 :: .any :: .os (H0.length + 6) 0 (CA.length + k) (CA.length + k) :: .i CA.length :: .any :: .any :: .any :: .any :: .any :: .any :: .any :: .any :: .any :: .any :: .any :: .any :: .any :: .any :: .any :: .any :: .any :: .any :: .any :: .any :: .any :: .any :: .any :: .any :: .any :: .any :: .any :: .any :: .any :: .any :: .any :: .any :: .any :: .any :: .any :: .any :: .any :: .any :: .any :: .any :: .any :: .any :: .any :: .any :: .any :: .any :: .any :: .any :: .any :: .any :: .any :: .any :: .any :: .any :: .any :: .any :: .any :: .any :: .any :: .any :: .any :: .any :: .any :: .any :: .any :: .any :: .any :: .any :: .any :: .any :: .any :: .any :: .any :: .any :: .any :: .any :: .any :: .any :: .any :: .any :: .any :: .any :: .any :: .any :: .any :: .any :: .any :: .rs 3 (CB.map encI) :: .i CB.length :: .i k :: .any :: .any :: .any :: .any :: .any :: .any :: .any :: .any :: .any :: .any :: .any :: .any :: .any :: .any :: .any :: .any :: .any :: .any :: .any :: .any :: .any :: .any :: .any :: .any :: .any :: .any :: .any :: .any :: .any :: []))
              (fun k => H0 ++ [.cells 26 ((cP p).map AV.pv), .dead, .cells 26 ((cP (withP p (A ++ B))).map AV.pv), .cells 30 ((cC ⟨CA, [], [], [], []⟩).map AV.pv), .cells 30 ((cC ⟨CB, [], [], [], []⟩).map AV.pv), .cells 30 ((cC ⟨joinS CA CB, [], [], [], []⟩).map AV.pv), .arr 41 3 (pR (CA ++ (CB.take k).map (shI CA.length)))]) 0 (Nat.zero_le _) ?_ ?_
            · simp only [List.take_zero, List.map_nil, List.append_nil, Nat.add_zero]
              (refine fgtX ?_; try exact True.intro)
            · rintro k k1
              cases hd : CB.drop k with
              | nil =>
                have hlt := drop_nil hd
                have hk : k = CB.length := by have := List.drop_eq_nil_iff.1 hd; omega
                subst hk
                have ej : CA ++ (CB.take CB.length).map (shI CA.length) = joinS CA CB := by rw [List.take_length]; rfl
                rw [ej, ← hjl]
                have cS := ARun.lend (H := H0 ++ [.cells 26 ((cP p).map AV.pv), .dead, .cells 26 ((cP (withP p (A ++ B))).map AV.pv), .cells 30 ((cC ⟨CA, [], [], [], []⟩).map AV.pv), .cells 30 ((cC ⟨CB, [], [], [], []⟩).map AV.pv), .cells 30 ((cC ⟨joinS CA CB, [], [], [], []⟩).map AV.pv), .arr 41 3 (pR (joinS CA CB))]) (args := [.rs 3 ((joinS CA CB).map encI), .os (H0.length + 6) 0 (joinS CA CB).length (joinS CA CB).length]) 1 (RSameI_run (joinS CA CB) (joinS CA CB) [])
                  (by simp only [List.map_cons, List.map_nil]; rw [low_osm (m := 0) (k := 6) (Nat.zero_le _) rfl (by simp)]; simp only [AV.low]; exact ⟨Cv.refl _, Cv.refl _, trivial⟩) rfl
                rw [show sameI (joinS CA CB) (joinS CA CB) = true by simp [sameI]] at cS
                (have rr1 := dr7_4_X21e; have ww1 := hlt; have cc1 := cS; refine wk ?_; clear rr1 ww1 cc1; (repeat' first | exact True.intro | refine Lf.mk ?_ ?_); all_goals intro hP)
                (refine resX ?_; try exact True.intro)
              | cons x r =>
                obtain ⟨hvk, hlt, hr, hm⟩ := drop_cons hd
                have hw : IntKind.i64.wrap ((k : Int) + 1) = ((k + 1 : Nat) : Int) := by rw [wrap_of (by omega) (by omega)]; omega
                have hx' : (CB.map encI)[k]? = some (cI x) := by rw [List.getElem?_map, hvk]; rfl
                have hv := hver (by omega)
                have hok := verH_ok hv hvk
                have hj := insOk_jumpP hok
                obtain ⟨op, nn, rel⟩ := x
                simp only at hj
                have hap : CA ++ (CB.take (k + 1)).map (shI CA.length) = CA ++ (CB.take k).map (shI CA.length) ++ [shI CA.length ⟨op, nn, rel⟩] := by
                  rw [List.take_add_one, hvk]; simp
                have hlen : (CA ++ (CB.take k).map (shI CA.length)).length = CA.length + k := by simp; omega
                have u7 := under_pvRows (m := H0.length + 7) (t := 41) (sz := 3) ((CA ++ (CB.take (k + 1)).map (shI CA.length)).map encI)
                have hkl : k < CB.length := by omega
                by_cases o : op = 12 ∨ op = 13
                · have hj2 := hj o
                  have hwn : IntKind.i64.wrap (nn + CA.length) = nn + CA.length := wrap_of (by omega) (by omega)
                  rcases o with o | o
                  · subst o
                    rw [show shI CA.length ⟨12, nn, rel⟩ = ⟨12, nn + CA.length, rel⟩ from rfl] at hap
                    have p9 := pR_one (CA ++ (CB.take k).map (shI CA.length)) 12 (nn + CA.length) rel
                    rw [← hap] at p9
                    have l9 := pR_len (CA ++ (CB.take k).map (shI CA.length))
                    rw [hlen] at l9
                    generalize hR : pR (CA ++ (CB.take k).map (shI CA.length)) = R at *
                    generalize hR2 : pR (CA ++ (CB.take (k + 1)).map (shI CA.length)) = R2 at *
                    (have rr1 := dr7_4_X21e; have ww1 := hlt; have ww2 := hw; have ww3 := hx'; have ww4 := p9; have ww5 := l9; have ww6 := hwn; refine wkO ?_; clear rr1 ww1 ww2 ww3 ww4 ww5 ww6; (repeat' first | exact True.intro | refine Lf.mk ?_ ?_); all_goals intro hP)
                    refine ⟨k + 1, by omega, by omega, ?_⟩
                    (refine Wk.keepE 7 1 (by rw [hR2]; rfl) (by simp) (by intro o ho; simp only [List.mem_cons, List.not_mem_nil, or_false] at ho; rcases ho with rfl | rfl | rfl | rfl | rfl | rfl | rfl; (simp [AObj.under, AV.under]); (trivial); (simp [AObj.under, AV.under]); (simp [AObj.under, AV.under]); (simp [AObj.under, AV.under]); (simp [AObj.under, AV.under]); (exact u7)) ?_; simp only [List.map_cons, List.map_nil, AV.low, Nat.add_assoc, Nat.lt_irrefl, if_false, Fgt, true_or, or_true, and_true, true_and, Nat.lt_add_right_iff_pos, Nat.add_lt_add_iff_left, Nat.reduceLT, Nat.lt_add_one, if_true, eq_self])
                  · subst o
                    rw [show shI CA.length ⟨13, nn, rel⟩ = ⟨13, nn + CA.length, rel⟩ from rfl] at hap
                    have p9 := pR_one (CA ++ (CB.take k).map (shI CA.length)) 13 (nn + CA.length) rel
                    rw [← hap] at p9
                    have l9 := pR_len (CA ++ (CB.take k).map (shI CA.length))
                    rw [hlen] at l9
                    generalize hR : pR (CA ++ (CB.take k).map (shI CA.length)) = R at *
                    generalize hR2 : pR (CA ++ (CB.take (k + 1)).map (shI CA.length)) = R2 at *
                    (have rr1 := dr7_4_X21e; have ww1 := hlt; have ww2 := hw; have ww3 := hx'; have ww4 := p9; have ww5 := l9; have ww6 := hwn; refine wkO ?_; clear rr1 ww1 ww2 ww3 ww4 ww5 ww6; (repeat' first | exact True.intro | refine Lf.mk ?_ ?_); all_goals intro hP)
                    refine ⟨k + 1, by omega, by omega, ?_⟩
                    (refine Wk.keepE 7 1 (by rw [hR2]; rfl) (by simp) (by intro o ho; simp only [List.mem_cons, List.not_mem_nil, or_false] at ho; rcases ho with rfl | rfl | rfl | rfl | rfl | rfl | rfl; (simp [AObj.under, AV.under]); (trivial); (simp [AObj.under, AV.under]); (simp [AObj.under, AV.under]); (simp [AObj.under, AV.under]); (simp [AObj.under, AV.under]); (exact u7)) ?_; simp only [List.map_cons, List.map_nil, AV.low, Nat.add_assoc, Nat.lt_irrefl, if_false, Fgt, true_or, or_true, and_true, true_and, Nat.lt_add_right_iff_pos, Nat.add_lt_add_iff_left, Nat.reduceLT, Nat.lt_add_one, if_true, eq_self])
                · have es : shI CA.length ⟨op, nn, rel⟩ = ⟨op, nn, rel⟩ := by unfold shI; rw [if_neg o]
                  rw [es] at hap
                  have p9 := pR_one (CA ++ (CB.take k).map (shI CA.length)) op nn rel
                  rw [← hap] at p9
                  have l9 := pR_len (CA ++ (CB.take k).map (shI CA.length))
                  rw [hlen] at l9
                  have o12 : ¬ op = 12 := fun h => o (.inl h)
                  have o13 : ¬ op = 13 := fun h => o (.inr h)
                  generalize hR : pR (CA ++ (CB.take k).map (shI CA.length)) = R at *
                  generalize hR2 : pR (CA ++ (CB.take (k + 1)).map (shI CA.length)) = R2 at *
                  (have rr1 := dr7_4_X21e; have ww1 := hlt; have ww2 := hw; have ww3 := hx'; have ww4 := p9; have ww5 := l9; refine wkO ?_; clear rr1 ww1 ww2 ww3 ww4 ww5; (repeat' first | exact True.intro | refine Lf.mk ?_ ?_); all_goals intro hP)
                  refine ⟨k + 1, by omega, by omega, ?_⟩
                  (refine Wk.keepE 7 1 (by rw [hR2]; rfl) (by simp) (by intro o ho; simp only [List.mem_cons, List.not_mem_nil, or_false] at ho; rcases ho with rfl | rfl | rfl | rfl | rfl | rfl | rfl; (simp [AObj.under, AV.under]); (trivial); (simp [AObj.under, AV.under]); (simp [AObj.under, AV.under]); (simp [AObj.under, AV.under]); (simp [AObj.under, AV.under]); (exact u7)) ?_; simp only [List.map_cons, List.map_nil, AV.low, Nat.add_assoc, Nat.lt_irrefl, if_false, Fgt, true_or, or_true, and_true, true_and, Nat.lt_add_right_iff_pos, Nat.add_lt_add_iff_left, Nat.reduceLT, Nat.lt_add_one, if_true, eq_self])
          · rw [if_neg (show ¬ (joinS CA CB).length ≤ 4000 by omega)] at cAB
            by_cases la : CA.length ≤ 4000 <;> by_cases lb : CB.length ≤ 4000
            all_goals
              simp only [la, lb, if_true, if_false] at cA cB
              (have rr1 := dr7_4_X21e; have cc1 := fun z1 => w1 z1; have cc2 := fun z1 => w2 z1; have cc3 := fun z1 => cA z1; have cc4 := fun z1 => cB z1; have cc5 := fun z1 => cAB z1; have cc6 := fun z1 => cV z1; refine wk ?_; clear rr1 cc1 cc2 cc3 cc4 cc5 cc6; (repeat' first | exact True.intro | refine Lf.mk ?_ ?_); all_goals intro hP)
              (refine resX ?_; try exact True.intro)
        · rw [decide_eq_false hAB] at vAB
          rw [vAB] at cV
          rw [comp_bad vAB] at cAB
          by_cases la : (codeSs A 0).length ≤ 4000 <;> by_cases lb : (codeSs B 0).length ≤ 4000
          all_goals
            simp only [la, lb, if_true, if_false] at cA cB
            (have rr1 := dr7_4_X21e; have cc1 := fun z1 => w1 z1; have cc2 := fun z1 => w2 z1; have cc3 := fun z1 => cA z1; have cc4 := fun z1 => cB z1; have cc5 := fun z1 => cAB z1; have cc6 := fun z1 => cV z1; refine wk ?_; clear rr1 cc1 cc2 cc3 cc4 cc5 cc6; (repeat' first | exact True.intro | refine Lf.mk ?_ ?_); all_goals intro hP)
            (refine resX ?_; try exact True.intro)
      · simp only [List.forall_mem_cons, List.not_mem_nil, false_implies, implies_true, and_true, go_sem, Nat.reduceAdd, Nat.reduceSub, Nat.reduceMul, Nat.reduceLeDiff, Nat.reduceLT, Nat.reduceEqDiff, Int.reduceToNat, Int.reduceAdd, Int.reduceMul, Int.reduceSub, Int.reduceLT, Int.reduceLE, Int.reduceEq, Int.reduceNeg, Int.reduceBEq, Int.reduceBNe, ↓reduceIte, reduceCtorEq, pick, List.length_map]
        (have rr1 := dr7_4_X21e; have ww1 := lA; have ww2 := lB; have ww3 := p1; have ww4 := p2; have ww5 := l1; have ww6 := fA1; have ww7 := fA2; have ww8 := fB1; have ww9 := fB2; have cc1 := fun z1 => w3 z1; have cc2 := fun z1 z2 => w4 z1 z2; have cc3 := fun z1 z2 => w5 z1 z2; refine wkS ?_; clear rr1 ww1 ww2 ww3 ww4 ww5 ww6 ww7 ww8 ww9 cc1 cc2 cc3; (repeat' first | exact True.intro | refine Lf.mk ?_ ?_); all_goals intro hP)
        all_goals (first | ((refine hW _ _ (Wk.perm0 [0, 1, 2] (by decide) ?_ ?_)) <;> (simp only [PermL, FgtR, AObj.ren, AV.ren, AV.under, AObj.under, AL.perm_0, AL.perm_k, List.map_cons, List.map_nil, List.map_map, List.map_replicate, List.replicate_succ, List.getD_cons_zero, List.getD_cons_succ, List.getElem?_cons_zero, List.getElem?_cons_succ, List.length_cons, List.length_nil, Nat.add_zero, Nat.zero_add, Nat.reduceAdd, Nat.add_lt_add_iff_left, Nat.reduceLT, Nat.lt_add_right_iff_pos, List.forall_mem_cons, List.mem_cons, List.not_mem_nil, forall_eq_or_imp, forall_eq, false_implies, implies_true, reduceCtorEq, false_or, true_or, or_true, and_true, true_and, and_self, List.forall_mem_map, List.mem_map, forall_exists_index, and_imp, forall_apply_eq_imp_iff₂, Function.comp_def]) <;> (first | (intro a _ ha c hc; subst ha; simp only [List.mem_singleton] at hc; subst hc; simp only [AV.under]))) | ((refine hW _ _ (Wk.perm0 [0, 2, 1] (by decide) ?_ ?_)) <;> (simp only [PermL, FgtR, AObj.ren, AV.ren, AV.under, AObj.under, AL.perm_0, AL.perm_k, List.map_cons, List.map_nil, List.map_map, List.map_replicate, List.replicate_succ, List.getD_cons_zero, List.getD_cons_succ, List.getElem?_cons_zero, List.getElem?_cons_succ, List.length_cons, List.length_nil, Nat.add_zero, Nat.zero_add, Nat.reduceAdd, Nat.add_lt_add_iff_left, Nat.reduceLT, Nat.lt_add_right_iff_pos, List.forall_mem_cons, List.mem_cons, List.not_mem_nil, forall_eq_or_imp, forall_eq, false_implies, implies_true, reduceCtorEq, false_or, true_or, or_true, and_true, true_and, and_self, List.forall_mem_map, List.mem_map, forall_exists_index, and_imp, forall_apply_eq_imp_iff₂, Function.comp_def]) <;> (first | (intro a _ ha c hc; subst ha; simp only [List.mem_singleton] at hc; subst hc; simp only [AV.under]))) | ((refine hW _ _ (Wk.perm0 [1, 0, 2] (by decide) ?_ ?_)) <;> (simp only [PermL, FgtR, AObj.ren, AV.ren, AV.under, AObj.under, AL.perm_0, AL.perm_k, List.map_cons, List.map_nil, List.map_map, List.map_replicate, List.replicate_succ, List.getD_cons_zero, List.getD_cons_succ, List.getElem?_cons_zero, List.getElem?_cons_succ, List.length_cons, List.length_nil, Nat.add_zero, Nat.zero_add, Nat.reduceAdd, Nat.add_lt_add_iff_left, Nat.reduceLT, Nat.lt_add_right_iff_pos, List.forall_mem_cons, List.mem_cons, List.not_mem_nil, forall_eq_or_imp, forall_eq, false_implies, implies_true, reduceCtorEq, false_or, true_or, or_true, and_true, true_and, and_self, List.forall_mem_map, List.mem_map, forall_exists_index, and_imp, forall_apply_eq_imp_iff₂, Function.comp_def]) <;> (first | (intro a _ ha c hc; subst ha; simp only [List.mem_singleton] at hc; subst hc; simp only [AV.under]))) | ((refine hW _ _ (Wk.perm0 [1, 2, 0] (by decide) ?_ ?_)) <;> (simp only [PermL, FgtR, AObj.ren, AV.ren, AV.under, AObj.under, AL.perm_0, AL.perm_k, List.map_cons, List.map_nil, List.map_map, List.map_replicate, List.replicate_succ, List.getD_cons_zero, List.getD_cons_succ, List.getElem?_cons_zero, List.getElem?_cons_succ, List.length_cons, List.length_nil, Nat.add_zero, Nat.zero_add, Nat.reduceAdd, Nat.add_lt_add_iff_left, Nat.reduceLT, Nat.lt_add_right_iff_pos, List.forall_mem_cons, List.mem_cons, List.not_mem_nil, forall_eq_or_imp, forall_eq, false_implies, implies_true, reduceCtorEq, false_or, true_or, or_true, and_true, true_and, and_self, List.forall_mem_map, List.mem_map, forall_exists_index, and_imp, forall_apply_eq_imp_iff₂, Function.comp_def]) <;> (first | (intro a _ ha c hc; subst ha; simp only [List.mem_singleton] at hc; subst hc; simp only [AV.under]))) | ((refine hW _ _ (Wk.perm0 [2, 0, 1] (by decide) ?_ ?_)) <;> (simp only [PermL, FgtR, AObj.ren, AV.ren, AV.under, AObj.under, AL.perm_0, AL.perm_k, List.map_cons, List.map_nil, List.map_map, List.map_replicate, List.replicate_succ, List.getD_cons_zero, List.getD_cons_succ, List.getElem?_cons_zero, List.getElem?_cons_succ, List.length_cons, List.length_nil, Nat.add_zero, Nat.zero_add, Nat.reduceAdd, Nat.add_lt_add_iff_left, Nat.reduceLT, Nat.lt_add_right_iff_pos, List.forall_mem_cons, List.mem_cons, List.not_mem_nil, forall_eq_or_imp, forall_eq, false_implies, implies_true, reduceCtorEq, false_or, true_or, or_true, and_true, true_and, and_self, List.forall_mem_map, List.mem_map, forall_exists_index, and_imp, forall_apply_eq_imp_iff₂, Function.comp_def]) <;> (first | (intro a _ ha c hc; subst ha; simp only [List.mem_singleton] at hc; subst hc; simp only [AV.under]))) | ((refine hW _ _ (Wk.perm0 [2, 1, 0] (by decide) ?_ ?_)) <;> (simp only [PermL, FgtR, AObj.ren, AV.ren, AV.under, AObj.under, AL.perm_0, AL.perm_k, List.map_cons, List.map_nil, List.map_map, List.map_replicate, List.replicate_succ, List.getD_cons_zero, List.getD_cons_succ, List.getElem?_cons_zero, List.getElem?_cons_succ, List.length_cons, List.length_nil, Nat.add_zero, Nat.zero_add, Nat.reduceAdd, Nat.add_lt_add_iff_left, Nat.reduceLT, Nat.lt_add_right_iff_pos, List.forall_mem_cons, List.mem_cons, List.not_mem_nil, forall_eq_or_imp, forall_eq, false_implies, implies_true, reduceCtorEq, false_or, true_or, or_true, and_true, true_and, and_self, List.forall_mem_map, List.mem_map, forall_exists_index, and_imp, forall_apply_eq_imp_iff₂, Function.comp_def]) <;> (first | (intro a _ ha c hc; subst ha; simp only [List.mem_singleton] at hc; subst hc; simp only [AV.under]))))
end Go.Proofs.Ytiifbdkedainnaa.Y
