/- Part 6 of the proofs of seat YtpfjlifneibhfaaGreat: what the texts behind it lean on (abstract memory, walks of functions, plain laws). -/
import Derived.Test.YtpfjlifneibhfaaGreatB5
set_option linter.unusedSectionVars false
set_option linter.unusedSimpArgs false
set_option linter.unusedVariables false
set_option maxHeartbeats 100000000
set_option maxRecDepth 100000
namespace Go.Proofs.YtpfjlifneibhfaaGreat.AL
theorem stSL_app {vs : List Un} : ∀ {a b : List St}, stSL vs a = 0 → stSL vs b = 0 → stSL vs (a ++ b) = 0
  | [], b, _, h => h
  | x :: xs, b, h, k => by
    simp only [stSL] at h
    split at h
    · rename_i hx
      simp only [List.cons_append, stSL]
      rw [if_pos hx]
      exact stSL_app h k
    · contradiction
end Go.Proofs.YtpfjlifneibhfaaGreat.AL
namespace Go.Proofs.YtpfjlifneibhfaaGreat.AL
section
variable (st : List Int) (i0 i1 i2 i3 : Int)
end
section
variable (vs : List Vr) (i0 i1 i2 i3 : Int)
end
theorem valE_err {st : List Int} {i0 i1 i2 i3 : Int} (e : Ex) : ∀ x, valE st i0 i1 i2 i3 e = .error x → x = 1 ∨ x = 3 ∨ x = 14 := by
  induction e using Ex.ind with
  | h e ih =>
    intro x h
    have hl : ∀ l : List Ex, (∀ k ∈ l, ∀ x, valE st i0 i1 i2 i3 k = .error x → x = 1 ∨ x = 3 ∨ x = 14) → ∀ x, valEs st i0 i1 i2 i3 l = .error x → x = 1 ∨ x = 3 ∨ x = 14 := by
      intro l
      induction l with
      | nil => intro _ x h; simp [valEs] at h
      | cons k ks ihl =>
        intro hk x h
        simp only [valEs] at h
        split at h
        · rename_i y hy
          cases h
          exact hk k (by simp) _ hy
        · split at h
          · rename_i y hy
            cases h
            exact ihl (fun k hm => hk k (by simp [hm])) _ hy
          · cases h
    rw [valE_eq] at h
    split at h
    · rename_i y hy
      cases h
      exact hl _ ih _ hy
    · unfold nodeV leafV at h
      repeat' split at h
      all_goals first
        | (cases h; exact .inl rfl)
        | (have := calcS_err h; omega)
        | (have := (valS_err h).2; omega)
end Go.Proofs.YtpfjlifneibhfaaGreat.AL
namespace Go.Proofs.YtpfjlifneibhfaaGreat.AL
section
variable (vs : List Vr) (i0 i1 i2 i3 : Int)
end
section
variable {vs : List Vr} {i0 i1 i2 i3 : Int}
end
section
variable {vs : List Vr} {i0 i1 i2 i3 : Int}
end
section
variable {vs : List Vr} {us : List Un} {i0 i1 i2 i3 : Int}
end
/-! ### Turned statements -/
def oppS (rel : Int) : Int := if rel = 1 then 4 else if rel = 2 then 3 else if rel = 3 then 2 else if rel = 4 then 1 else if rel = 5 then 6 else 5
theorem holds_opp (a rel b : Int) (h : 1 ≤ rel ∧ rel ≤ 6) : holdsS a (oppS rel) b = !holdsS a rel b := by
  have : rel = 1 ∨ rel = 2 ∨ rel = 3 ∨ rel = 4 ∨ rel = 5 ∨ rel = 6 := by omega
  rcases this with rfl | rfl | rfl | rfl | rfl | rfl
  · simp [holdsS, oppS] <;> (try rw [← decide_not]) <;> (try (congr 1; simp)) <;> (try omega)
  · simp [holdsS, oppS] <;> (try rw [← decide_not]) <;> (try (congr 1; simp)) <;> (try omega)
  · simp [holdsS, oppS] <;> (try rw [← decide_not]) <;> (try (congr 1; simp)) <;> (try omega)
  · simp [holdsS, oppS] <;> (try rw [← decide_not]) <;> (try (congr 1; simp)) <;> (try omega)
  · simp [holdsS, oppS, bne]
  · simp [holdsS, oppS, bne]
mutual
def turnS : St → St
  | .mk k v r a b t e => if k = 2 then .mk k v (oppS r) a b (turnL e) (turnL t) else .mk k v r a b t e
def turnL : List St → List St
  | [] => []
  | s :: ss => turnS s :: turnL ss
end
theorem turnS_eq (s : St) : turnS s = if s.kind = 2 then .mk s.kind s.var (oppS s.rel) s.a s.b (turnL s.els) (turnL s.thn) else s := by cases s; rw [turnS]; rfl
theorem turnL_map : ∀ l : List St, turnL l = l.map turnS
  | [] => by simp [turnL]
  | s :: l => by simp [turnL, turnL_map l]
theorem turnS_1 {s : St} (h : s.kind ≠ 2) : turnS s = s := by rw [turnS_eq, if_neg h]
theorem turnS_2 {s : St} (h : s.kind = 2) : (turnS s).kind = 2 ∧ (turnS s).rel = oppS s.rel ∧ (turnS s).a = s.a ∧ (turnS s).b = s.b ∧ (turnS s).thn = turnL s.els ∧ (turnS s).els = turnL s.thn ∧ (turnS s).var = s.var := by
  rw [turnS_eq, if_pos h]; exact ⟨h, rfl, rfl, rfl, rfl, rfl, rfl⟩
theorem turnS_run {vs : List Vr} {us : List Un} {i0 i1 i2 i3 : Int} (s : St) : stS us s = 0 → ∀ st, runStS vs i0 i1 i2 i3 (turnS s) st = runStS vs i0 i1 i2 i3 s st := by
  have hl : ∀ l : List St, (∀ k ∈ l, stS us k = 0 → ∀ st, runStS vs i0 i1 i2 i3 (turnS k) st = runStS vs i0 i1 i2 i3 k st) → stSL us l = 0 → ∀ st, runStL vs i0 i1 i2 i3 (turnL l) st = runStL vs i0 i1 i2 i3 l st := by
    intro l
    induction l with
    | nil => intro _ _ st; rw [turnL]
    | cons x xs ih =>
      intro h h2 st
      obtain ⟨hx, hxs⟩ := stSL_cons h2
      rw [turnL, runStL_cons, runStL_cons, h x (by simp) hx st]
      cases runStS vs i0 i1 i2 i3 x st with
      | error y => rfl
      | ok st' => exact ih (fun k hk => h k (by simp [hk])) hxs st'
  induction s using St.ind with
  | h s h1 h2 =>
    intro h st
    rcases stS_ok h with ⟨hk1, hv0, hv1, u, hu⟩ | ⟨hk2, hr1, hr2, ⟨u, hu⟩, ⟨u', hu'⟩, ht, he⟩
    · rw [turnS_1 (by omega)]
    · obtain ⟨q1, q2, q3, q4, q5, q6, q7⟩ := turnS_2 hk2
      rw [runStS_eq, runStS_eq, q1, q2, q3, q4, q5, q6, hk2, hl _ h1 ht, hl _ h2 he]
      simp only [holds_opp _ _ _ ⟨hr1, hr2⟩]
      cases valE st i0 i1 i2 i3 s.a with
      | error x => rfl
      | ok x =>
        cases valE st i0 i1 i2 i3 s.b with
        | error y => rfl
        | ok y => simp only; cases holdsS x s.rel y <;> simp
theorem turnL_run {vs : List Vr} {us : List Un} {i0 i1 i2 i3 : Int} : ∀ (l : List St), stSL us l = 0 → ∀ st, runStL vs i0 i1 i2 i3 (turnL l) st = runStL vs i0 i1 i2 i3 l st
  | [], _, st => by rw [turnL]
  | s :: l, h, st => by
    obtain ⟨hx, hxs⟩ := stSL_cons h
    rw [turnL, runStL_cons, runStL_cons, turnS_run s hx st]
    cases runStS vs i0 i1 i2 i3 s st with
    | error y => rfl
    | ok st' => exact turnL_run l hxs st'
end Go.Proofs.YtpfjlifneibhfaaGreat.AL
namespace Go.Proofs.YtpfjlifneibhfaaGreat.Y
open Go.Proofs.YtpfjlifneibhfaaGreat.AL Go.Proofs Go
attribute [local irreducible] AWP AWL AWG AWR AWE AWX AWO AWSeq AWSG AWSR AWSO AWSE AWSF GoodP OGW OGR OGE OGX PGW PGR PGE Wk AWLoop AWPD AWLD
theorem RHolds_run (a rel b : Int) (hr : 1 ≤ rel ∧ rel ≤ 6) (H0 : List AObj) : ARun Tryz.prog 22 [.i rel, .i a, .i b] H0 (.ret (.b (holdsS a rel b)) H0) := by
  have hc : rel = 1 ∨ rel = 2 ∨ rel = 3 ∨ rel = 4 ∨ rel = 5 ∨ rel = 6 := by omega
  clear hr
  rcases hc with rfl | rfl | rfl | rfl | rfl | rfl
  all_goals
    (refine ARun.intro Tryz.func22 rfl Tryz.call22 Tryz.ntmps22 Tryz.results22 ?_; simp only [List.length_cons, List.length_nil, List.length_map, Nat.reduceAdd, Nat.reduceSub, List.replicate_succ, List.replicate_zero, List.cons_append, List.nil_append])
    (refine wk ?_; (repeat' first | exact True.intro | refine Lf.mk ?_ ?_); all_goals intro hP)
    (refine resX ?_; try exact True.intro)
    all_goals simp [holdsS]
end Go.Proofs.YtpfjlifneibhfaaGreat.Y
namespace Go.Proofs.YtpfjlifneibhfaaGreat.AL
theorem turnL_len : ∀ l : List St, (turnL l).length = l.length
  | [] => by simp [turnL]
  | s :: l => by simp [turnL, turnL_len l]
/-- A sum over statements. -/
theorem turn_stS {us : List Un} (s : St) : stS us s = 0 → stS us (turnS s) = 0 := by
  have hl : ∀ l : List St, (∀ k ∈ l, stS us k = 0 → stS us (turnS k) = 0) → stSL us l = 0 → stSL us (turnL l) = 0 := by
    intro l
    induction l with
    | nil => intro _ _; simp [turnL, stSL]
    | cons x xs ih =>
      intro h h2
      obtain ⟨hx, hxs⟩ := stSL_cons h2
      rw [turnL]
      simp only [stSL]
      rw [if_pos (h x (by simp) hx)]
      exact ih (fun k hk => h k (by simp [hk])) hxs
  induction s using St.ind with
  | h s h1 h2 =>
    intro h
    by_cases hk2 : s.kind = 2
    · rcases stS_ok h with ⟨hk1, _⟩ | ⟨_, hr1, hr2, _, _, ht, he⟩
      · omega
      · have g1 := hl _ h1 ht
        have g2 := hl _ h2 he
        obtain ⟨q1, q2, q3, q4, q5, q6, q7⟩ := turnS_2 hk2
        rw [stS_eq] at h ⊢
        rw [if_neg (by omega), if_pos hk2, if_pos ⟨hr1, hr2⟩] at h
        have ho : 1 ≤ oppS s.rel ∧ oppS s.rel ≤ 6 := by unfold oppS; repeat' split <;> omega
        rw [if_neg (by omega), if_pos q1, q2, if_pos ho, q3, q4, q5, q6]
        cases ha : inf us s.a with
        | error x => rw [ha] at h; exact h
        | ok u =>
          rw [ha] at h
          cases hb : inf us s.b with
          | error x => rw [hb] at h; exact h
          | ok w =>
            rw [hb] at h
            simp only at h ⊢
            split
            · exact g1
            · rename_i hn; rw [if_neg hn] at h; exact h
    · rw [turnS_1 hk2]; exact h
theorem turnL_stSL {us : List Un} : ∀ {l : List St}, stSL us l = 0 → stSL us (turnL l) = 0
  | [], _ => by simp [turnL, stSL]
  | s :: l, h => by
    obtain ⟨hx, hxs⟩ := stSL_cons h
    rw [turnL]
    simp only [stSL]
    rw [if_pos (turn_stS s hx)]
    exact turnL_stSL hxs
theorem smS_eq' (s : St) : smS s = (decide (nodes s.a ≤ 60) && (if s.kind = 2 then decide (nodes s.b ≤ 60) && (smSL s.thn && smSL s.els) else true)) := by cases s; rw [smS]; rfl
theorem turn_sm (s : St) : smS (turnS s) = smS s ∧ many (turnS s) = many s ∧ wS (turnS s) = wS s := by
  have hl : ∀ l : List St, (∀ k ∈ l, smS (turnS k) = smS k ∧ many (turnS k) = many k ∧ wS (turnS k) = wS k) → smSL (turnL l) = smSL l ∧ manyL (turnL l) = manyL l ∧ wSL (turnL l) = wSL l := by
    intro l
    induction l with
    | nil => intro _; simp [turnL]
    | cons x xs ih =>
      intro h
      obtain ⟨a1, a2, a3⟩ := h x (by simp)
      obtain ⟨b1, b2, b3⟩ := ih (fun k hk => h k (by simp [hk]))
      rw [turnL]
      simp only [smSL, manyL, wSL, a1, a2, a3, b1, b2, b3, and_self]
  induction s using St.ind with
  | h s h1 h2 =>
    by_cases hk2 : s.kind = 2
    · obtain ⟨a1, a2, a3⟩ := hl _ h1
      obtain ⟨b1, b2, b3⟩ := hl _ h2
      obtain ⟨q1, q2, q3, q4, q5, q6, q7⟩ := turnS_2 hk2
      refine ⟨?_, ?_, ?_⟩
      · rw [smS_eq', smS_eq', q1, q3, q4, q5, q6, hk2, a1, b1, Bool.and_comm (smSL s.els)]
      · rw [many_eq, many_eq, q1, q5, q6, hk2, a2, b2, Nat.add_comm (manyL s.els)]
      · rw [wS_eq, wS_eq, q3, q4, q5, q6, a3, b3]; omega
    · rw [turnS_1 hk2]; exact ⟨rfl, rfl, rfl⟩
theorem turnL_sm : ∀ l : List St, smSL (turnL l) = smSL l ∧ manyL (turnL l) = manyL l ∧ wSL (turnL l) = wSL l
  | [] => by simp [turnL]
  | s :: l => by
    obtain ⟨a1, a2, a3⟩ := turn_sm s
    obtain ⟨b1, b2, b3⟩ := turnL_sm l
    rw [turnL]
    simp only [smSL, manyL, wSL, a1, a2, a3, b1, b2, b3, and_self]
section
variable {i0 i1 i2 i3 j0 j1 j2 j3 k : Int} (hj : ∀ n : Int, 0 ≤ n → n < 4 → n ≠ k → inS j0 j1 j2 j3 n.toNat = inS i0 i1 i2 i3 n.toNat)
include hj
end
end Go.Proofs.YtpfjlifneibhfaaGreat.AL
namespace Go.Proofs.YtpfjlifneibhfaaGreat.AL
theorem HOk.turn {us : List Un} {l : List St} (h : HOk us l) : HOk us (turnL l) := by
  obtain ⟨h1, h2, h3⟩ := h
  obtain ⟨g1, g2, _⟩ := turnL_sm l
  exact ⟨turnL_stSL h1, by rw [g1]; exact h2, by rw [g2]; exact h3⟩
end Go.Proofs.YtpfjlifneibhfaaGreat.AL
namespace Go.Proofs.YtpfjlifneibhfaaGreat.Y
open Go.Proofs.YtpfjlifneibhfaaGreat.AL Go.Proofs Go
attribute [local irreducible] AWP AWL AWG AWR AWE AWX AWO AWSeq AWSG AWSR AWSO AWSE AWSF GoodP OGW OGR OGE OGX PGW PGR PGE Wk AWLoop AWPD AWLD
theorem PM.put {p : Prg} (h : PM p) {k : Nat} (hk : k < 5) {l : List St} (hl : wSL l ≤ wSL (handP p k)) : PM (putP p k l) :=
  ⟨by have := put_w hk hl; have := h.w; omega, h.l, h.z, h.zv⟩
theorem PM.only {p : Prg} (h : PM p) (k : Nat) : PM (onlyP p k) := ⟨by have := only_w (p := p) k; have := h.w; omega, h.l, h.z, h.zv⟩
theorem runM_is {p : Prg} {st : List Int} {x : Cal} (hc : callOk x = true) (hs : stIn p.vars st = true) (hv : validB p = true) : runM p st x = runP p.vars (handP p x.ev.toNat) st x := by
  unfold runM; rw [if_pos ⟨hc, hs, hv⟩]
theorem runM_put {p : Prg} {us : List Un} {st : List Int} {x : Cal} (hc : callOk x = true) (hs : stIn p.vars st = true) (hv : validB p = true) (V : Val p us) {l : List St} (hl : HOk us l) :
    runM (putP p x.ev.toNat l) st x = runP p.vars l st x := by
  have := call_ev hc
  rw [runM_is (p := putP p x.ev.toNat l) hc hs (put_valid hv V _ hl), put_hand (by omega)]
  rfl
theorem ev5 {x : Cal} (hc : callOk x = true) : x.ev = 0 ∨ x.ev = 1 ∨ x.ev = 2 ∨ x.ev = 3 ∨ x.ev = 4 := by have := call_ev hc; omega
theorem one_ne_zero' : ((1 : Nat) = 0) = False := by simp
theorem zero_ne_one' : ((0 : Nat) = 1) = False := by simp
theorem dr21_7_X30y : Drawn Tryz.prog 7 (regOps 7 ((Tryz.f21.body).getD .skip)) [2, 5, 7, 9] [] [.win [0], .win [0], .eff 0, .win [0, 1], .win [0, 1], .eff 1, .win [1, 2], .eff 2, .win [3], .eff 3] 4 [] := ⟨rfl, by as_aux_lemma => kernel_rfl⟩
theorem opposite8_run (rel : Int) (H0 : List AObj) : ARun Tryz.prog 45 [.i rel] H0 (.ret (.i (oppS rel)) H0) := by
  unfold oppS
  by_cases h1 : rel = 1
  · subst h1
    (refine ARun.intro Tryz.func45 rfl Tryz.call45 Tryz.ntmps45 Tryz.results45 ?_; simp only [List.length_cons, List.length_nil, List.length_map, Nat.reduceAdd, Nat.reduceSub, List.replicate_succ, List.replicate_zero, List.cons_append, List.nil_append])
    (refine wk ?_; (repeat' first | exact True.intro | refine Lf.mk ?_ ?_); all_goals intro hP)
    (refine resX ?_; try exact True.intro)
  by_cases h2 : rel = 2
  · subst h2
    (refine ARun.intro Tryz.func45 rfl Tryz.call45 Tryz.ntmps45 Tryz.results45 ?_; simp only [List.length_cons, List.length_nil, List.length_map, Nat.reduceAdd, Nat.reduceSub, List.replicate_succ, List.replicate_zero, List.cons_append, List.nil_append])
    (refine wk ?_; (repeat' first | exact True.intro | refine Lf.mk ?_ ?_); all_goals intro hP)
    (refine resX ?_; try exact True.intro)
  by_cases h3 : rel = 3
  · subst h3
    (refine ARun.intro Tryz.func45 rfl Tryz.call45 Tryz.ntmps45 Tryz.results45 ?_; simp only [List.length_cons, List.length_nil, List.length_map, Nat.reduceAdd, Nat.reduceSub, List.replicate_succ, List.replicate_zero, List.cons_append, List.nil_append])
    (refine wk ?_; (repeat' first | exact True.intro | refine Lf.mk ?_ ?_); all_goals intro hP)
    (refine resX ?_; try exact True.intro)
  by_cases h4 : rel = 4
  · subst h4
    (refine ARun.intro Tryz.func45 rfl Tryz.call45 Tryz.ntmps45 Tryz.results45 ?_; simp only [List.length_cons, List.length_nil, List.length_map, Nat.reduceAdd, Nat.reduceSub, List.replicate_succ, List.replicate_zero, List.cons_append, List.nil_append])
    (refine wk ?_; (repeat' first | exact True.intro | refine Lf.mk ?_ ?_); all_goals intro hP)
    (refine resX ?_; try exact True.intro)
  by_cases h5 : rel = 5
  · subst h5
    (refine ARun.intro Tryz.func45 rfl Tryz.call45 Tryz.ntmps45 Tryz.results45 ?_; simp only [List.length_cons, List.length_nil, List.length_map, Nat.reduceAdd, Nat.reduceSub, List.replicate_succ, List.replicate_zero, List.cons_append, List.nil_append])
    (refine wk ?_; (repeat' first | exact True.intro | refine Lf.mk ?_ ?_); all_goals intro hP)
    (refine resX ?_; try exact True.intro)
  have e1 : (rel == 1) = false := by simpa using h1
  have e2 : (rel == 2) = false := by simpa using h2
  have e3 : (rel == 3) = false := by simpa using h3
  have e4 : (rel == 4) = false := by simpa using h4
  have e5 : (rel == 5) = false := by simpa using h5
  rw [if_neg h1, if_neg h2, if_neg h3, if_neg h4, if_neg h5]
  (refine ARun.intro Tryz.func45 rfl Tryz.call45 Tryz.ntmps45 Tryz.results45 ?_; simp only [List.length_cons, List.length_nil, List.length_map, Nat.reduceAdd, Nat.reduceSub, List.replicate_succ, List.replicate_zero, List.cons_append, List.nil_append])
  (have ww1 := e1; have ww2 := e2; have ww3 := e3; have ww4 := e4; have ww5 := e5; refine wk ?_; clear ww1 ww2 ww3 ww4 ww5; (repeat' first | exact True.intro | refine Lf.mk ?_ ?_); all_goals intro hP)
  (refine resX ?_; try exact True.intro)
abbrev sR8 (l : List St) : List (List AV) := pvRows (l.map encS)
theorem sR8_len (l : List St) : (sR8 l).length = l.length := by simp [pvRows]
theorem sR8_one (l : List St) (s : St) : sR8 l ++ [(cS s).map AV.pv] = sR8 (l ++ [s]) := by simp [pvRows, encS_eq]
theorem sR8_app (a b : List St) : sR8 a ++ (b.map encS).map (fun r => r.map AV.pv) = sR8 (a ++ b) := by simp [pvRows]
theorem sR8_toPVs (H : List AObj) (m d : Nat) (l : List St) : AV.toPVs H m d (sR8 l) = some (l.map encS) := by unfold sR8 pvRows; rw [toPVs_pvs]
theorem cS_turn {s : St} (h : s.kind = 2) : cS (turnS s) = [.i s.kind, .i s.var, .i (oppS s.rel), .i s.a.op, .i s.a.n, .i s.a.unit, .rs 4 (s.a.kids.map encE), .i s.b.op, .i s.b.n, .i s.b.unit, .rs 4 (s.b.kids.map encE), .rs 13 ((turnL s.els).map encS), .rs 13 ((turnL s.thn).map encS)] := by
  obtain ⟨q1, q2, q3, q4, q5, q6, q7⟩ := turnS_2 h
  simp only [cS, q1, q2, q3, q4, q5, q6, q7, h]
theorem turned8_run : ∀ (N : Nat) (l : List St), totL l ≤ N → totL l ≤ 1000000 → ∀ (H0 : List AObj), ARun Tryz.prog 21 [.rs 13 (l.map encS)] H0 (.ret (.rs 13 ((turnL l).map encS)) H0) := by
  intro N
  induction N with
  | zero =>
    intro l hN _ H0
    have hl : l = [] := by have := len_totL l; exact List.eq_nil_of_length_eq_zero (by omega)
    subst hl
    rw [turnL, List.map_nil]
    (refine ARun.intro Tryz.func21 rfl Tryz.call21 Tryz.ntmps21 Tryz.results21 ?_; simp only [List.length_cons, List.length_nil, List.length_map, Nat.reduceAdd, Nat.reduceSub, List.replicate_succ, List.replicate_zero, List.cons_append, List.nil_append])
    (have rr1 := dr21_7_X30y; refine wk ?_; clear rr1; (repeat' first | exact True.intro | refine Lf.mk ?_ ?_); all_goals intro hP)
    refine awp_loop 1 ?_
    (have rr1 := dr21_7_X30y; refine wkO ?_; clear rr1; (repeat' first | exact True.intro | refine Lf.mk ?_ ?_); all_goals intro hP)
    exact ⟨_, rfl, _, rfl, Fin.pureC0 2 (by simp only [aOne, aev, AV.low]; exact Cv.nil (Nat.succ_pos _))⟩
  | succ N ihN =>
    intro l hN hb0 H0
    have hll : l.length ≤ 1000000 := by have := len_totL l; omega
    (refine ARun.intro Tryz.func21 rfl Tryz.call21 Tryz.ntmps21 Tryz.results21 ?_; simp only [List.length_cons, List.length_nil, List.length_map, Nat.reduceAdd, Nat.reduceSub, List.replicate_succ, List.replicate_zero, List.cons_append, List.nil_append])
    (have rr1 := dr21_7_X30y; refine wk ?_; clear rr1; (repeat' first | exact True.intro | refine Lf.mk ?_ ?_); all_goals intro hP)
    refine awp_loop_ind (σ := Nat) (fun i => l.length - i) (fun i => i ≤ l.length)
      (fun i => (.any :: .any :: .any :: .os H0.length 0 i i :: .any :: .any :: .rs 13 (l.map encS) :: .i l.length :: .i i :: .any :: .any :: .any :: .any :: .any :: .any :: .any :: .any :: .any :: .any :: .any :: .any :: .any :: .any :: .any :: .any :: .any :: .any :: .any :: .any :: .any :: .any :: .any :: .any :: [])) (fun i => H0 ++ [.arr 50 13 (sR8 (turnL (l.take i)))]) 0 (Nat.zero_le _) (by rw [List.take_zero, turnL]; exact Wk.trans (Wk.ghost 3 50 (sz := 13) (by omega) rfl) (by (refine fgtX ?_; try exact True.intro))) ?_
    rintro i i1
    have hw : IntKind.i64.wrap ((i : Int) + 1) = ((i + 1 : Nat) : Int) := by rw [wrap_of (by omega) (by omega)]; omega
    have ln : (sR8 (turnL (l.take i))).length = i := by rw [sR8_len, turnL_len, List.length_take]; omega
    cases hd : l.drop i with
    | nil =>
      have hlt := drop_nil hd
      have hi : l.length ≤ i := List.drop_eq_nil_iff.1 hd
      rw [List.take_of_length_le hi] at ln ⊢
      (have rr1 := dr21_7_X30y; have ww1 := hlt; refine wk ?_; clear rr1 ww1; (repeat' first | exact True.intro | refine Lf.mk ?_ ?_); all_goals intro hP)
      (refine resC ?_; (repeat' (first | exact True.intro | refine Lf.mk ?_ ?_)))
      rw [if_pos ⟨ln, Nat.le_refl _⟩, List.take_of_length_le (by omega), sR8_toPVs]
      exact Cv.refl _
    | cons s ss =>
      obtain ⟨hvk, hlt, hr, hm⟩ := drop_cons hd
      have hl' : (l.map encS)[i]? = some (cS s) := by rw [List.getElem?_map, hvk]; exact congrArg some (encS_eq s)
      have ht := totL_mem hm
      rw [tot_eq] at ht
      have cT := fun H => ihN s.thn (by omega) (by omega) H
      have cE' := fun H => ihN s.els (by omega) (by omega) H
      have cO := fun H => opposite8_run s.rel H
      have hts : turnL (l.take (i + 1)) = turnL (l.take i) ++ [turnS s] := by rw [turnL_map, turnL_map, List.take_add_one, hvk]; simp
      have f1 : (i + 1) * 168 ≤ 140737488355328 := by omega
      have f2 : i + 1 ≤ 9223372036854775807 := by omega
      have hp1 := sR8_one (turnL (l.take i)) (turnS s)
      by_cases h2 : s.kind = 2
      · have h2' : (s.kind == 2) = true := by simpa using h2
        rw [cS_turn h2] at hp1
        simp only [List.map_cons, List.map_nil] at hp1
        (have rr1 := dr21_7_X30y; have ww1 := hlt; have ww2 := hl'; have ww3 := h2'; have ww4 := hw; have ww5 := f1; have ww6 := f2; have ww7 := ln; have ww8 := hp1; have cc1 := fun z1 => cT z1; have cc2 := fun z1 => cE' z1; have cc3 := fun z1 => cO z1; refine wkS ?_; clear rr1 ww1 ww2 ww3 ww4 ww5 ww6 ww7 ww8 cc1 cc2 cc3; (repeat' first | exact True.intro | refine Lf.mk ?_ ?_); all_goals intro hP)
        refine ⟨i + 1, by omega, by omega, ?_⟩
        rw [hts]
        refine Wk.keepE 1 1 rfl (by simp) (by intro o ho; simp only [List.mem_cons, List.not_mem_nil, or_false] at ho; subst ho; exact under_pvRows _) ?_
        simp only [List.map_cons, List.map_nil, AV.low, Nat.lt_irrefl, if_false, Fgt, true_or, or_true, and_true, true_and, Nat.lt_add_right_iff_pos, Nat.lt_add_one, if_true, eq_self]
      · have h2' : (s.kind == 2) = false := by simpa using h2
        rw [turnS_1 h2] at hp1
        simp only [List.map_cons, List.map_nil] at hp1
        (have rr1 := dr21_7_X30y; have ww1 := hlt; have ww2 := hl'; have ww3 := h2'; have ww4 := hw; have ww5 := f1; have ww6 := f2; have ww7 := ln; have ww8 := hp1; refine wkS ?_; clear rr1 ww1 ww2 ww3 ww4 ww5 ww6 ww7 ww8; (repeat' first | exact True.intro | refine Lf.mk ?_ ?_); all_goals intro hP)
        refine ⟨i + 1, by omega, by omega, ?_⟩
        rw [hts, turnS_1 h2]
        refine Wk.keepE 1 1 rfl (by simp) (by intro o ho; simp only [List.mem_cons, List.not_mem_nil, or_false] at ho; subst ho; exact under_pvRows _) ?_
        simp only [List.map_cons, List.map_nil, AV.low, Nat.lt_irrefl, if_false, Fgt, true_or, or_true, and_true, true_and, Nat.lt_add_right_iff_pos, Nat.lt_add_one, if_true, eq_self]
theorem eval_is {us : List Un} {st : List Int} {i0 i1 i2 i3 : Int} {e : Ex} (h : nodes e ≤ 60) : evalR st i0 i1 i2 i3 e = valE st i0 i1 i2 i3 e := by
  unfold evalR
  have h1 := size_cap e 60 (by omega)
  rw [if_neg]
  intro h2
  have : nodes e ≤ 60 → ¬ 60 < size e 60 := fun _ => by have := h1.2.1; omega
  exact this h h2
/-- A handler that begins with an if. -/
theorem choice_head {us : List Un} {s : St} {ss : List St} (h : HOk us (s :: ss)) (h2 : s.kind = 2) :
    1 ≤ s.rel ∧ s.rel ≤ 6 ∧ nodes s.a ≤ 60 ∧ nodes s.b ≤ 60 ∧ HOk us (s.thn ++ ss) ∧ HOk us (s.els ++ ss) ∧ (∃ u, inf us s.a = .ok u) ∧ (∃ u, inf us s.b = .ok u) := by
  obtain ⟨g1, g2, g3⟩ := h
  obtain ⟨hs, hss⟩ := stSL_cons g1
  simp only [smSL, Bool.and_eq_true] at g2
  simp only [manyL] at g3
  rcases stS_ok hs with ⟨hk1, _⟩ | ⟨hk2, hr1, hr2, hu, hu', ht, he⟩
  · omega
  · rw [smS_eq', if_pos h2] at g2
    simp only [Bool.and_eq_true, decide_eq_true_eq] at g2
    rw [many_eq, if_pos h2] at g3
    refine ⟨hr1, hr2, g2.1.1, g2.1.2.1, ⟨stSL_app ht hss, ?_, ?_⟩, ⟨stSL_app he hss, ?_, ?_⟩, hu, hu'⟩
    · rw [smSL_app, g2.1.2.2.1, g2.2]; rfl
    · rw [manyL_append]; omega
    · rw [smSL_app, g2.1.2.2.2, g2.2]; rfl
    · rw [manyL_append]; omega
theorem choice_w (s : St) (ss : List St) : wSL (s.thn ++ ss) ≤ wSL (s :: ss) ∧ wSL (s.els ++ ss) ≤ wSL (s :: ss) := by
  rw [wSL_appM, wSL_appM]
  simp only [wSL]
  rw [wS_eq]
  omega
theorem choice_err {vs : List Vr} {st : List Int} {x : Cal} {s : St} {ss : List St} (h2 : s.kind = 2) :
    runP vs (s :: ss) st x = match valE st x.i0 x.i1 x.i2 x.i3 s.a with
      | .error z => .error z
      | .ok a => match valE st x.i0 x.i1 x.i2 x.i3 s.b with
        | .error z => .error z
        | .ok b => if holdsS a s.rel b = true then runP vs (s.thn ++ ss) st x else runP vs (s.els ++ ss) st x := by
  unfold runP
  rw [runStL_cons, runStS_eq]
  have hk1 : ¬ s.kind = 1 := by omega
  simp only [hk1, if_false]
  cases valE st x.i0 x.i1 x.i2 x.i3 s.a with
  | error z => rfl
  | ok a =>
    simp only
    cases valE st x.i0 x.i1 x.i2 x.i3 s.b with
    | error z => rfl
    | ok b =>
      simp only
      by_cases h : holdsS a s.rel b = true
      · rw [if_pos h, if_pos h, runStL_app]
      · rw [if_neg h, if_neg h, runStL_app]
theorem dr6_6_X31a : Drawn Tryz.prog 6 (regOps 6 ((Tryz.f6.body).getD .skip)) [3, 6] [] [.win [0, 1], .win [0, 1], .win [0], .eff 0, .win [0, 1], .win [1], .eff 1] 2 [] := ⟨rfl, by as_aux_lemma => kernel_rfl⟩
theorem dr6_13_X31a : Drawn Tryz.prog 13 (regOps 13 ((Tryz.f6.body).getD .skip)) [7] [] [.win [0], .win [0], .win [0], .win [0], .win [0], .win [0], .win [0], .eff 0, .win [1], .win [1], .win [1], .win [1], .win [1]] 1 [] := ⟨rfl, by as_aux_lemma => kernel_rfl⟩
theorem dr6_14_X31a : Drawn Tryz.prog 14 (regOps 14 ((Tryz.f6.body).getD .skip)) [7] [] [.win [0], .win [0], .win [0], .win [0], .win [0], .win [0], .win [0], .eff 0, .win [1], .win [1], .win [1], .win [1], .win [1]] 1 [] := ⟨rfl, by as_aux_lemma => kernel_rfl⟩
theorem dr6_20_X31a : Drawn Tryz.prog 20 (regOps 20 ((Tryz.f6.body).getD .skip)) [2, 4, 7, 10] [] [.win [0, 1, 2, 3], .win [0, 1, 2, 3], .eff 0, .win [0, 1], .eff 1, .win [0, 1, 2], .win [0, 1, 2], .eff 2, .win [0, 1, 2, 3], .win [3], .eff 3] 4 [] := ⟨rfl, by as_aux_lemma => kernel_rfl⟩
theorem MeaningChoice_0 (p : Prg) (st : List Int) (x : Cal) (hp : PF p) (huse : useB p st x = true) (hxe : x.ev = 0) (H0 : List AObj) :
    ARun Tryz.prog 6 [.ag (cP p), .rs 1 (rI st), agL x] H0 (.ret (.b true) H0) := by
  have hh := fun H => head8_run H
  have hu := fun H => usable8_run p hp st x H
  rw [huse] at hu
  obtain ⟨hfew, hv, hs, hc⟩ := useB_all huse
  have pm := hp.pm hfew
  obtain ⟨us, V⟩ := validB_val hv
  have hL := val_hok V x.ev.toNat
  have hev5 := call_ev hc
  have hsl := stIn_len hs
  have hfa := few5_all hfew
  have hpl : p.vars.length ≤ 20 := by omega
  have c1 := fun H => pm.mrun st x H
  have htw : wSL (turnL (handP p x.ev.toNat)) ≤ wSL (handP p x.ev.toNat) := by rw [(turnL_sm _).2.2]; exact Nat.le_refl _
  have c2 := fun H => (pm.put (k := x.ev.toNat) (by omega) htw).mrun st x H
  have e2 : runM (putP p x.ev.toNat (turnL (handP p x.ev.toNat))) st x = runM p st x := by
    rw [runM_put hc hs hv V hL.turn, runM_is hc hs hv]
    exact turnL_run _ hL.1 st
  rw [e2] at c2
  have l2 := runM_len p st x
  have cI := fun H => Ints_run (runL (runM p st x)) (runL (runM p st x)) (by omega) H
  rw [beq_self_eq_true] at cI
  have hT : totL (handP p x.ev.toNat) ≤ 1000000 := by
    have h9 := pm.w
    have h8 := totL_le (handP p x.ev.toNat)
    have : wSL (handP p x.ev.toNat) ≤ 900000 := by unfold handP; (repeat' split) <;> omega
    omega
  have hT2 := len_totL (handP p x.ev.toNat)
  have cT := fun H => turned8_run _ (handP p x.ev.toNat) (Nat.le_refl _) hT H
  have hM := runM_is hc hs hv
  have c3 := fun l (hl : HOk us l) (hw : wSL l ≤ wSL (handP p x.ev.toNat)) H => (pm.put (k := x.ev.toNat) (by omega) hw).mrun st x H
  have e3 := fun l (hl : HOk us l) => runM_put (st := st) hc hs hv V hl
  have cEv := fun (e : Ex) H => MEval_run st (by omega) x.i0 x.i1 x.i2 x.i3 e H
  have hTw : wSL (handP p x.ev.toNat) ≤ 900000 := by
    have h9 := pm.w
    unfold handP; (repeat' split) <;> omega
  clear huse hfew hfa e2 htw
  obtain ⟨ev, i0, i1, i2, i3⟩ := x
  simp only at hev5
  subst hxe
  · obtain ⟨nm, vs, L, o1, o2, o3, o4, wn, pc⟩ := p
    simp only [Int.reduceToNat, Int.toNat_zero, Int.toNat_one, handP, if_true, if_false, Nat.reduceEqDiff, reduceIte, putP, onP, one_ne_zero', zero_ne_one'] at *
    (refine ARun.intro Tryz.func6 rfl Tryz.call6 Tryz.ntmps6 Tryz.results6 ?_; simp only [List.length_cons, List.length_nil, List.length_map, Nat.reduceAdd, Nat.reduceSub, List.replicate_succ, List.replicate_zero, List.cons_append, List.nil_append])
    (have rr1 := dr6_6_X31a; have rr2 := dr6_13_X31a; have rr3 := dr6_14_X31a; have rr4 := dr6_20_X31a; have cc1 := fun z1 => hh z1; have cc2 := fun z1 => hu z1; refine wkS ?_; clear rr1 rr2 rr3 rr4 cc1 cc2; (repeat' first | exact True.intro | refine Lf.mk ?_ ?_); all_goals intro hP)
    refine awp_drawnO_c (id := 5) [2, 3, 4, 5] [([2, 3, 4, 5], [0, 1, 2, 3, 4, 5], [.win [0, 1, 2], .win [0, 1, 2, 3], .eff 0, .eff 1, .eff 2, .eff 3]), ([3, 2, 4, 5], [0, 1, 3, 2, 4, 5], [.win [0, 1, 2], .win [0, 1, 2, 3], .eff 1, .eff 0, .eff 2, .eff 3])] 4 rfl (by as_aux_lemma => kernel_rfl) ((.any :: .rs 1 (rI st) :: .any :: .p H0.length 0 :: .any :: .p (H0.length + 1) 0 :: .any :: .b true :: .rs 13 (L.map encS) :: .p (H0.length + 2) 0 :: .p (H0.length + 3) 0 :: .any :: .any :: .any :: .any :: .any :: .any :: .any :: .any :: .any :: .any :: .any :: .any :: .any :: .any :: .any :: .any :: .any :: .any :: .any :: .any :: .any :: .any :: .any :: .any :: .any :: .any :: .any :: .any :: .any :: .any :: .any :: .any :: .any :: .any :: .any :: .any :: .any :: .any :: .any :: .any :: .any :: .any :: .any :: .any :: .any :: .any :: .any :: .any :: .any :: .any :: .any :: .any :: .any :: .any :: .any :: .any :: .any :: .any :: .any :: .any :: .any :: .any :: .any :: .any :: .any :: .any :: .any :: .any :: .any :: .any :: .any :: .any :: .any :: .any :: .any :: .any :: .any :: .any :: .any :: .any :: .any :: .any :: .any :: .any :: .any :: .any :: .any :: .any :: .any :: .any :: .any :: .any :: .any :: .any :: .any :: .any :: .any :: .any :: .any :: .any :: .any :: .any :: .any :: .any :: .any :: .any :: .any :: .any :: .any :: .any :: .any :: .any :: .any :: .any :: .any :: .any :: .any :: .any :: .any :: .any :: .any :: .any :: .any :: .any :: .any :: .any :: .any :: .any :: .any :: .any :: .any :: .any :: .any :: .any :: .any :: .any :: .any :: .any :: .any :: .any :: .any :: .any :: .any :: .any :: .any :: .any :: .any :: .any :: .any :: .any :: .any :: .any :: .any :: .any :: .any :: []))
      (H0 ++ [.cells 26 [.pv (.sc (.string nm)), .rs 5 (vs.map encV), .rs 13 (L.map encS), .rs 13 (o1.map encS), .rs 13 (o2.map encS), .rs 13 (o3.map encS), .rs 13 (o4.map encS), .i wn, .i pc], .cells 30 [.i 0, .i i0, .i i1, .i i2, .i i3], .cells 26 [.pv (.sc (.string nm)), .rs 5 (vs.map encV), .rs 13 (L.map encS), .rs 13 (o1.map encS), .rs 13 (o2.map encS), .rs 13 (o3.map encS), .rs 13 (o4.map encS), .i wn, .i pc], .cells 26 [.pv (.sc (.string nm)), .rs 5 (vs.map encV), .rs 13 (L.map encS), .rs 13 (o1.map encS), .rs 13 (o2.map encS), .rs 13 (o3.map encS), .rs 13 (o4.map encS), .i wn, .i pc]]) (fun tm H wk h => by simp only [AEx.thn] at h ⊢; exact awp_wk wk h) ?_ (fun Kp W hW => ?_)
    · simp only [AEx.thn]
      by_cases hl0 : L.length = 0
      · have hLe : L = [] := List.eq_nil_of_length_eq_zero hl0
        have hl0' : ((L.length : Int) == 0) = true := by simp; exact hLe
        (have rr1 := dr6_6_X31a; have rr2 := dr6_13_X31a; have rr3 := dr6_14_X31a; have rr4 := dr6_20_X31a; have ww1 := hl0'; have cc1 := fun z1 => c1 z1; have cc2 := fun z1 => c2 z1; have cc3 := fun z1 => cI z1; have cc4 := fun z1 => cT z1; refine wkS ?_; clear rr1 rr2 rr3 rr4 ww1 cc1 cc2 cc3 cc4; (repeat' first | exact True.intro | refine Lf.mk ?_ ?_); all_goals intro hP)
        all_goals ((refine resX ?_; try exact True.intro))
      · obtain ⟨s, ss, hLe⟩ : ∃ s ss, L = s :: ss := by match L, hl0 with | s :: ss, _ => exact ⟨s, ss, rfl⟩
        have hl0' : ((L.length : Int) == 0) = false := by simp; intro h; exact hl0 (by rw [h]; rfl)
        have g0 : (L.map encS)[0]? = some (cS s) := by rw [hLe]; exact congrArg some (encS_eq s)
        have lt0 : (0 : Int) < (L.length : Int) := by omega
        by_cases h2 : s.kind = 2
        · have h2' : (s.kind != 2) = false := by simpa using h2
          obtain ⟨hr1, hr2, na, nb, hokT, hokE, _, _⟩ := choice_head (hLe ▸ hL) h2
          have hrun := choice_err (vs := vs) (st := st) (x := ⟨0, i0, i1, i2, i3⟩) (ss := ss) h2
          rw [← hLe, ← hM] at hrun
          have cA := fun H => cEv s.a H
          have cB := fun H => cEv s.b H
          rw [eval_is (us := us) na] at cA
          rw [eval_is (us := us) nb] at cB
          have cH := fun a b H => RHolds_run a s.rel b ⟨hr1, hr2⟩ H
          simp only at hrun
          clear cEv hM
          cases hva : valE st i0 i1 i2 i3 s.a with
          | error z =>
            rw [hva] at hrun cA
            simp only at hrun
            rw [hrun] at c1 c2 cI
            have hz0 := valE_err s.a z hva
            have hz : (z != 0) = true := by simp; omega
            have hz' : (z == 0) = false := by simp; omega
            simp only [runL, runE, vN, eN] at c1 c2 cI cA
            generalize vN (valE st i0 i1 i2 i3 s.b) = B1 at *
            generalize eN (valE st i0 i1 i2 i3 s.b) = B2 at *
            clear c3 e3 hrun
            (have rr1 := dr6_6_X31a; have rr2 := dr6_13_X31a; have rr3 := dr6_14_X31a; have rr4 := dr6_20_X31a; have ww1 := hl0'; have ww2 := g0; have ww3 := lt0; have ww4 := h2'; have ww5 := hz; have ww6 := hz'; have cc1 := fun z1 => c1 z1; have cc2 := fun z1 => c2 z1; have cc3 := fun z1 => cI z1; have cc4 := fun z1 => cT z1; have cc5 := fun z1 => cA z1; have cc6 := fun z1 => cB z1; refine wkS ?_; clear rr1 rr2 rr3 rr4 ww1 ww2 ww3 ww4 ww5 ww6 cc1 cc2 cc3 cc4 cc5 cc6; (repeat' first | exact True.intro | refine Lf.mk ?_ ?_); all_goals intro hP)
            all_goals ((refine resX ?_; try exact True.intro))
          | ok a =>
            rw [hva] at hrun cA
            simp only at hrun
            cases hvb : valE st i0 i1 i2 i3 s.b with
            | error z =>
              rw [hvb] at hrun cB
              simp only at hrun
              rw [hrun] at c1 c2 cI
              have hz0 := valE_err s.b z hvb
              have hz : (z != 0) = true := by simp; omega
              have hz' : (z == 0) = false := by simp; omega
              simp only [runL, runE, vN, eN] at c1 c2 cI cA cB
              clear c3 e3 hrun
              (have rr1 := dr6_6_X31a; have rr2 := dr6_13_X31a; have rr3 := dr6_14_X31a; have rr4 := dr6_20_X31a; have ww1 := hl0'; have ww2 := g0; have ww3 := lt0; have ww4 := h2'; have ww5 := hz; have ww6 := hz'; have cc1 := fun z1 => c1 z1; have cc2 := fun z1 => c2 z1; have cc3 := fun z1 => cI z1; have cc4 := fun z1 => cT z1; have cc5 := fun z1 => cA z1; have cc6 := fun z1 => cB z1; refine wkS ?_; clear rr1 rr2 rr3 rr4 ww1 ww2 ww3 ww4 ww5 ww6 cc1 cc2 cc3 cc4 cc5 cc6; (repeat' first | exact True.intro | refine Lf.mk ?_ ?_); all_goals intro hP)
              all_goals ((refine resX ?_; try exact True.intro))
            | ok b =>
              rw [hvb] at hrun cB
              simp only at hrun
              simp only [vN, eN] at cA cB
              replace cH := cH a b
              have hww := choice_w s ss
              rw [← hLe] at hww
              obtain ⟨part, hpart, hokP, hwP⟩ : ∃ part, (if holdsS a s.rel b = true then s.thn else s.els) = part ∧ HOk us (part ++ ss) ∧ wSL (part ++ ss) ≤ wSL L := by
                refine ⟨_, rfl, ?_, ?_⟩ <;> split <;> first | assumption | exact hww.1 | exact hww.2
              have c4 := fun H => c3 (part ++ ss) hokP hwP H
              have e4 : runP vs (part ++ ss) st ⟨0, i0, i1, i2, i3⟩ = runM ⟨nm, vs, L, o1, o2, o3, o4, wn, pc⟩ st ⟨0, i0, i1, i2, i3⟩ := by
                rw [hrun, ← hpart]; split <;> rfl
              rw [e3 (part ++ ss) hokP, e4] at c4
              have hpl2 : part.length + ss.length ≤ 1000000 := by
                have := len_totL (part ++ ss)
                have := totL_le (part ++ ss)
                rw [List.length_append] at *
                omega
              have f1 : part.length * 168 ≤ 140737488355328 := by omega
              have f2 : part.length ≤ 9223372036854775807 := by omega
              have f3 : (part.length + ss.length) * 168 ≤ 140737488355328 := by omega
              have f4 : part.length + ss.length ≤ 9223372036854775807 := by omega
              have p1 : (part.map encS).map (fun r => r.map AV.pv) = sR8 part := rfl
              have p2 := sR8_app part ss
              have l1 := sR8_len part
              have hza := Nat.zero_add
              have hna : ∀ l : List (List AV), [] ++ l = l := List.nil_append
              have q2 : List.take (L.length - 1) (List.drop 1 (L.map encS)) = ss.map encS := by rw [hLe]; simp only [List.length_cons, Nat.add_sub_cancel, List.map_cons, List.drop_succ_cons, List.drop_zero]; exact List.take_of_length_le (by simp)
              have lt1 : (1 : Int) ≤ (L.length : Int) := by omega
              have cF := fun (y1 y2 y3 y4 : AObj) => ARun.frz (P := Tryz.prog) (f := 16) (t := 50) (sz := 13) (rows := (part ++ ss).map encS) (H0.length + 4) (H := H0 ++ [y1, y2, y3, y4, .arr 50 13 (sR8 (part ++ ss))])
                (args := [.agg [.pv (.sc (.string nm)), .rs 5 (vs.map encV), .os (H0.length + 4) 0 (part.length + ss.length) (part.length + ss.length), .rs 13 (o1.map encS), .rs 13 (o2.map encS), .rs 13 (o3.map encS), .rs 13 (o4.map encS), .i wn, .i pc], .rs 1 (rI st), .agg [.i 0, .i i0, .i i1, .i i2, .i i3]]) (getOk _ _ _) (c4 _)
                (by simp only [List.map_cons, List.map_nil, AV.frz, List.length_map, List.length_append, and_self, if_true]; (repeat' (first | exact trivial | exact Cv.refl _ | exact Cv.nil (Nat.succ_pos _) | exact PCv.refl _ | exact PCv.nil (Nat.succ_pos _) | refine And.intro ?_ ?_ | refine Cv.agg ?_ | refine Cv.tup ?_ | refine Cv.pv (PCv.rs ?_) | refine PCv.rs ?_)))
              simp only [setOk, List.set_cons_succ, List.set_cons_zero] at cF
              clear c3 e3 c4 e4 hrun hww hokT hokE hokP
              cases hh1 : holdsS a s.rel b with
              | true =>
                rw [hh1] at cH hpart
                simp only [if_true] at hpart
                rw [← hpart] at p1 p2 l1 f1 f2 f3 f4 cF
                clear hpart
                (have rr1 := dr6_6_X31a; have rr2 := dr6_13_X31a; have rr3 := dr6_14_X31a; have rr4 := dr6_20_X31a; have ww1 := hl0'; have ww2 := g0; have ww3 := lt0; have ww4 := h2'; have ww5 := f1; have ww6 := f2; have ww7 := f3; have ww8 := f4; have ww9 := p1; have ww10 := p2; have ww11 := l1; have ww12 := q2; have ww13 := lt1; have ww14 := hna; have ww15 := hza; have cc1 := fun z1 => c1 z1; have cc2 := fun z1 => c2 z1; have cc3 := fun z1 => cI z1; have cc4 := fun z1 => cT z1; have cc5 := fun z1 => cA z1; have cc6 := fun z1 => cB z1; have cc7 := fun z1 => cH z1; have cc8 := fun z1 z2 z3 z4 => cF z1 z2 z3 z4; refine wkS ?_; clear rr1 rr2 rr3 rr4 ww1 ww2 ww3 ww4 ww5 ww6 ww7 ww8 ww9 ww10 ww11 ww12 ww13 ww14 ww15 cc1 cc2 cc3 cc4 cc5 cc6 cc7 cc8; (repeat' first | exact True.intro | refine Lf.mk ?_ ?_); all_goals intro hP)
                all_goals ((refine resX ?_; try exact True.intro))
              | false =>
                rw [hh1] at cH hpart
                simp only [Bool.false_eq_true, if_false] at hpart
                rw [← hpart] at p1 p2 l1 f1 f2 f3 f4 cF
                clear hpart
                (have rr1 := dr6_6_X31a; have rr2 := dr6_13_X31a; have rr3 := dr6_14_X31a; have rr4 := dr6_20_X31a; have ww1 := hl0'; have ww2 := g0; have ww3 := lt0; have ww4 := h2'; have ww5 := f1; have ww6 := f2; have ww7 := f3; have ww8 := f4; have ww9 := p1; have ww10 := p2; have ww11 := l1; have ww12 := q2; have ww13 := lt1; have ww14 := hna; have ww15 := hza; have cc1 := fun z1 => c1 z1; have cc2 := fun z1 => c2 z1; have cc3 := fun z1 => cI z1; have cc4 := fun z1 => cT z1; have cc5 := fun z1 => cA z1; have cc6 := fun z1 => cB z1; have cc7 := fun z1 => cH z1; have cc8 := fun z1 z2 z3 z4 => cF z1 z2 z3 z4; refine wkS ?_; clear rr1 rr2 rr3 rr4 ww1 ww2 ww3 ww4 ww5 ww6 ww7 ww8 ww9 ww10 ww11 ww12 ww13 ww14 ww15 cc1 cc2 cc3 cc4 cc5 cc6 cc7 cc8; (repeat' first | exact True.intro | refine Lf.mk ?_ ?_); all_goals intro hP)
                all_goals ((refine resX ?_; try exact True.intro))
        · have h2' : (s.kind != 2) = true := by simpa using h2
          clear c3 e3 cEv
          (have rr1 := dr6_6_X31a; have rr2 := dr6_13_X31a; have rr3 := dr6_14_X31a; have rr4 := dr6_20_X31a; have ww1 := hl0'; have ww2 := g0; have ww3 := lt0; have ww4 := h2'; have cc1 := fun z1 => c1 z1; have cc2 := fun z1 => c2 z1; have cc3 := fun z1 => cI z1; have cc4 := fun z1 => cT z1; refine wkS ?_; clear rr1 rr2 rr3 rr4 ww1 ww2 ww3 ww4 cc1 cc2 cc3 cc4; (repeat' first | exact True.intro | refine Lf.mk ?_ ?_); all_goals intro hP)
          all_goals ((refine resX ?_; try exact True.intro))
    · simp only [List.forall_mem_cons, List.not_mem_nil, false_implies, implies_true, and_true, go_sem, Nat.reduceAdd, Nat.reduceSub, Nat.reduceMul, Nat.reduceLeDiff, Nat.reduceLT, Nat.reduceEqDiff, Int.reduceToNat, Int.reduceAdd, Int.reduceMul, Int.reduceSub, Int.reduceLT, Int.reduceLE, Int.reduceEq, Int.reduceNeg, Int.reduceBEq, Int.reduceBNe, ↓reduceIte, reduceCtorEq, pick, List.length_map]
      (have rr1 := dr6_6_X31a; have rr2 := dr6_13_X31a; have rr3 := dr6_14_X31a; have rr4 := dr6_20_X31a; refine wkS ?_; clear rr1 rr2 rr3 rr4; (repeat' first | exact True.intro | refine Lf.mk ?_ ?_); all_goals intro hP)
      all_goals (first | ((refine hW _ _ (Wk.perm0 [0, 1, 2, 3] (by decide) ?_ ?_)) <;> (simp only [PermL, FgtR, AObj.ren, AV.ren, AV.under, AObj.under, AL.perm_0, AL.perm_k, List.map_cons, List.map_nil, List.map_map, List.map_replicate, List.replicate_succ, List.getD_cons_zero, List.getD_cons_succ, List.getElem?_cons_zero, List.getElem?_cons_succ, List.length_cons, List.length_nil, Nat.add_zero, Nat.zero_add, Nat.reduceAdd, Nat.add_lt_add_iff_left, Nat.reduceLT, Nat.lt_add_right_iff_pos, List.forall_mem_cons, List.mem_cons, List.not_mem_nil, forall_eq_or_imp, forall_eq, false_implies, implies_true, reduceCtorEq, false_or, true_or, or_true, and_true, true_and, and_self, List.forall_mem_map, List.mem_map, forall_exists_index, and_imp, forall_apply_eq_imp_iff₂, Function.comp_def]) <;> (first | (intro a _ ha c hc; subst ha; simp only [List.mem_singleton] at hc; subst hc; simp only [AV.under]))) | ((refine hW _ _ (Wk.perm0 [0, 1, 3, 2] (by decide) ?_ ?_)) <;> (simp only [PermL, FgtR, AObj.ren, AV.ren, AV.under, AObj.under, AL.perm_0, AL.perm_k, List.map_cons, List.map_nil, List.map_map, List.map_replicate, List.replicate_succ, List.getD_cons_zero, List.getD_cons_succ, List.getElem?_cons_zero, List.getElem?_cons_succ, List.length_cons, List.length_nil, Nat.add_zero, Nat.zero_add, Nat.reduceAdd, Nat.add_lt_add_iff_left, Nat.reduceLT, Nat.lt_add_right_iff_pos, List.forall_mem_cons, List.mem_cons, List.not_mem_nil, forall_eq_or_imp, forall_eq, false_implies, implies_true, reduceCtorEq, false_or, true_or, or_true, and_true, true_and, and_self, List.forall_mem_map, List.mem_map, forall_exists_index, and_imp, forall_apply_eq_imp_iff₂, Function.comp_def]) <;> (first | (intro a _ ha c hc; subst ha; simp only [List.mem_singleton] at hc; subst hc; simp only [AV.under]))))
theorem dr6_6_X31b : Drawn Tryz.prog 6 (regOps 6 ((Tryz.f6.body).getD .skip)) [3, 6] [] [.win [0, 1], .win [0, 1], .win [0], .eff 0, .win [0, 1], .win [1], .eff 1] 2 [] := ⟨rfl, by as_aux_lemma => kernel_rfl⟩
theorem dr6_13_X31b : Drawn Tryz.prog 13 (regOps 13 ((Tryz.f6.body).getD .skip)) [7] [] [.win [0], .win [0], .win [0], .win [0], .win [0], .win [0], .win [0], .eff 0, .win [1], .win [1], .win [1], .win [1], .win [1]] 1 [] := ⟨rfl, by as_aux_lemma => kernel_rfl⟩
theorem dr6_14_X31b : Drawn Tryz.prog 14 (regOps 14 ((Tryz.f6.body).getD .skip)) [7] [] [.win [0], .win [0], .win [0], .win [0], .win [0], .win [0], .win [0], .eff 0, .win [1], .win [1], .win [1], .win [1], .win [1]] 1 [] := ⟨rfl, by as_aux_lemma => kernel_rfl⟩
theorem dr6_20_X31b : Drawn Tryz.prog 20 (regOps 20 ((Tryz.f6.body).getD .skip)) [2, 4, 7, 10] [] [.win [0, 1, 2, 3], .win [0, 1, 2, 3], .eff 0, .win [0, 1], .eff 1, .win [0, 1, 2], .win [0, 1, 2], .eff 2, .win [0, 1, 2, 3], .win [3], .eff 3] 4 [] := ⟨rfl, by as_aux_lemma => kernel_rfl⟩
theorem MeaningChoice_1 (p : Prg) (st : List Int) (x : Cal) (hp : PF p) (huse : useB p st x = true) (hxe : x.ev = 1) (H0 : List AObj) :
    ARun Tryz.prog 6 [.ag (cP p), .rs 1 (rI st), agL x] H0 (.ret (.b true) H0) := by
  have hh := fun H => head8_run H
  have hu := fun H => usable8_run p hp st x H
  rw [huse] at hu
  obtain ⟨hfew, hv, hs, hc⟩ := useB_all huse
  have pm := hp.pm hfew
  obtain ⟨us, V⟩ := validB_val hv
  have hL := val_hok V x.ev.toNat
  have hev5 := call_ev hc
  have hsl := stIn_len hs
  have hfa := few5_all hfew
  have hpl : p.vars.length ≤ 20 := by omega
  have c1 := fun H => pm.mrun st x H
  have htw : wSL (turnL (handP p x.ev.toNat)) ≤ wSL (handP p x.ev.toNat) := by rw [(turnL_sm _).2.2]; exact Nat.le_refl _
  have c2 := fun H => (pm.put (k := x.ev.toNat) (by omega) htw).mrun st x H
  have e2 : runM (putP p x.ev.toNat (turnL (handP p x.ev.toNat))) st x = runM p st x := by
    rw [runM_put hc hs hv V hL.turn, runM_is hc hs hv]
    exact turnL_run _ hL.1 st
  rw [e2] at c2
  have l2 := runM_len p st x
  have cI := fun H => Ints_run (runL (runM p st x)) (runL (runM p st x)) (by omega) H
  rw [beq_self_eq_true] at cI
  have hT : totL (handP p x.ev.toNat) ≤ 1000000 := by
    have h9 := pm.w
    have h8 := totL_le (handP p x.ev.toNat)
    have : wSL (handP p x.ev.toNat) ≤ 900000 := by unfold handP; (repeat' split) <;> omega
    omega
  have hT2 := len_totL (handP p x.ev.toNat)
  have cT := fun H => turned8_run _ (handP p x.ev.toNat) (Nat.le_refl _) hT H
  have hM := runM_is hc hs hv
  have c3 := fun l (hl : HOk us l) (hw : wSL l ≤ wSL (handP p x.ev.toNat)) H => (pm.put (k := x.ev.toNat) (by omega) hw).mrun st x H
  have e3 := fun l (hl : HOk us l) => runM_put (st := st) hc hs hv V hl
  have cEv := fun (e : Ex) H => MEval_run st (by omega) x.i0 x.i1 x.i2 x.i3 e H
  have hTw : wSL (handP p x.ev.toNat) ≤ 900000 := by
    have h9 := pm.w
    unfold handP; (repeat' split) <;> omega
  clear huse hfew hfa e2 htw
  obtain ⟨ev, i0, i1, i2, i3⟩ := x
  simp only at hev5
  subst hxe
  · obtain ⟨nm, vs, o0, L, o2, o3, o4, wn, pc⟩ := p
    simp only [Int.reduceToNat, Int.toNat_zero, Int.toNat_one, handP, if_true, if_false, Nat.reduceEqDiff, reduceIte, putP, onP, one_ne_zero', zero_ne_one'] at *
    (refine ARun.intro Tryz.func6 rfl Tryz.call6 Tryz.ntmps6 Tryz.results6 ?_; simp only [List.length_cons, List.length_nil, List.length_map, Nat.reduceAdd, Nat.reduceSub, List.replicate_succ, List.replicate_zero, List.cons_append, List.nil_append])
    (have rr1 := dr6_6_X31b; have rr2 := dr6_13_X31b; have rr3 := dr6_14_X31b; have rr4 := dr6_20_X31b; have cc1 := fun z1 => hh z1; have cc2 := fun z1 => hu z1; refine wkS ?_; clear rr1 rr2 rr3 rr4 cc1 cc2; (repeat' first | exact True.intro | refine Lf.mk ?_ ?_); all_goals intro hP)
    refine awp_drawnO_c (id := 5) [2, 3, 4, 5] [([2, 3, 4, 5], [0, 1, 2, 3, 4, 5], [.win [0, 1, 2], .win [0, 1, 2, 3], .eff 0, .eff 1, .eff 2, .eff 3]), ([3, 2, 4, 5], [0, 1, 3, 2, 4, 5], [.win [0, 1, 2], .win [0, 1, 2, 3], .eff 1, .eff 0, .eff 2, .eff 3])] 4 rfl (by as_aux_lemma => kernel_rfl) ((.any :: .rs 1 (rI st) :: .any :: .p H0.length 0 :: .any :: .p (H0.length + 1) 0 :: .any :: .b true :: .rs 13 (L.map encS) :: .p (H0.length + 2) 0 :: .p (H0.length + 3) 0 :: .any :: .any :: .any :: .any :: .any :: .any :: .any :: .any :: .any :: .any :: .any :: .any :: .any :: .any :: .any :: .any :: .any :: .any :: .any :: .any :: .any :: .any :: .any :: .any :: .any :: .any :: .any :: .any :: .any :: .any :: .any :: .any :: .any :: .any :: .any :: .any :: .any :: .any :: .any :: .any :: .any :: .any :: .any :: .any :: .any :: .any :: .any :: .any :: .any :: .any :: .any :: .any :: .any :: .any :: .any :: .any :: .any :: .any :: .any :: .any :: .any :: .any :: .any :: .any :: .any :: .any :: .any :: .any :: .any :: .any :: .any :: .any :: .any :: .any :: .any :: .any :: .any :: .any :: .any :: .any :: .any :: .any :: .any :: .any :: .any :: .any :: .any :: .any :: .any :: .any :: .any :: .any :: .any :: .any :: .any :: .any :: .any :: .any :: .any :: .any :: .any :: .any :: .any :: .any :: .any :: .any :: .any :: .any :: .any :: .any :: .any :: .any :: .any :: .any :: .any :: .any :: .any :: .any :: .any :: .any :: .any :: .any :: .any :: .any :: .any :: .any :: .any :: .any :: .any :: .any :: .any :: .any :: .any :: .any :: .any :: .any :: .any :: .any :: .any :: .any :: .any :: .any :: .any :: .any :: .any :: .any :: .any :: .any :: .any :: .any :: .any :: .any :: .any :: .any :: .any :: []))
      (H0 ++ [.cells 26 [.pv (.sc (.string nm)), .rs 5 (vs.map encV), .rs 13 (o0.map encS), .rs 13 (L.map encS), .rs 13 (o2.map encS), .rs 13 (o3.map encS), .rs 13 (o4.map encS), .i wn, .i pc], .cells 30 [.i 1, .i i0, .i i1, .i i2, .i i3], .cells 26 [.pv (.sc (.string nm)), .rs 5 (vs.map encV), .rs 13 (o0.map encS), .rs 13 (L.map encS), .rs 13 (o2.map encS), .rs 13 (o3.map encS), .rs 13 (o4.map encS), .i wn, .i pc], .cells 26 [.pv (.sc (.string nm)), .rs 5 (vs.map encV), .rs 13 (o0.map encS), .rs 13 (L.map encS), .rs 13 (o2.map encS), .rs 13 (o3.map encS), .rs 13 (o4.map encS), .i wn, .i pc]]) (fun tm H wk h => by simp only [AEx.thn] at h ⊢; exact awp_wk wk h) ?_ (fun Kp W hW => ?_)
    · simp only [AEx.thn]
      by_cases hl0 : L.length = 0
      · have hLe : L = [] := List.eq_nil_of_length_eq_zero hl0
        have hl0' : ((L.length : Int) == 0) = true := by simp; exact hLe
        (have rr1 := dr6_6_X31b; have rr2 := dr6_13_X31b; have rr3 := dr6_14_X31b; have rr4 := dr6_20_X31b; have ww1 := hl0'; have cc1 := fun z1 => c1 z1; have cc2 := fun z1 => c2 z1; have cc3 := fun z1 => cI z1; have cc4 := fun z1 => cT z1; refine wkS ?_; clear rr1 rr2 rr3 rr4 ww1 cc1 cc2 cc3 cc4; (repeat' first | exact True.intro | refine Lf.mk ?_ ?_); all_goals intro hP)
        all_goals ((refine resX ?_; try exact True.intro))
      · obtain ⟨s, ss, hLe⟩ : ∃ s ss, L = s :: ss := by match L, hl0 with | s :: ss, _ => exact ⟨s, ss, rfl⟩
        have hl0' : ((L.length : Int) == 0) = false := by simp; intro h; exact hl0 (by rw [h]; rfl)
        have g0 : (L.map encS)[0]? = some (cS s) := by rw [hLe]; exact congrArg some (encS_eq s)
        have lt0 : (0 : Int) < (L.length : Int) := by omega
        by_cases h2 : s.kind = 2
        · have h2' : (s.kind != 2) = false := by simpa using h2
          obtain ⟨hr1, hr2, na, nb, hokT, hokE, _, _⟩ := choice_head (hLe ▸ hL) h2
          have hrun := choice_err (vs := vs) (st := st) (x := ⟨1, i0, i1, i2, i3⟩) (ss := ss) h2
          rw [← hLe, ← hM] at hrun
          have cA := fun H => cEv s.a H
          have cB := fun H => cEv s.b H
          rw [eval_is (us := us) na] at cA
          rw [eval_is (us := us) nb] at cB
          have cH := fun a b H => RHolds_run a s.rel b ⟨hr1, hr2⟩ H
          simp only at hrun
          clear cEv hM
          cases hva : valE st i0 i1 i2 i3 s.a with
          | error z =>
            rw [hva] at hrun cA
            simp only at hrun
            rw [hrun] at c1 c2 cI
            have hz0 := valE_err s.a z hva
            have hz : (z != 0) = true := by simp; omega
            have hz' : (z == 0) = false := by simp; omega
            simp only [runL, runE, vN, eN] at c1 c2 cI cA
            generalize vN (valE st i0 i1 i2 i3 s.b) = B1 at *
            generalize eN (valE st i0 i1 i2 i3 s.b) = B2 at *
            clear c3 e3 hrun
            (have rr1 := dr6_6_X31b; have rr2 := dr6_13_X31b; have rr3 := dr6_14_X31b; have rr4 := dr6_20_X31b; have ww1 := hl0'; have ww2 := g0; have ww3 := lt0; have ww4 := h2'; have ww5 := hz; have ww6 := hz'; have cc1 := fun z1 => c1 z1; have cc2 := fun z1 => c2 z1; have cc3 := fun z1 => cI z1; have cc4 := fun z1 => cT z1; have cc5 := fun z1 => cA z1; have cc6 := fun z1 => cB z1; refine wkS ?_; clear rr1 rr2 rr3 rr4 ww1 ww2 ww3 ww4 ww5 ww6 cc1 cc2 cc3 cc4 cc5 cc6; (repeat' first | exact True.intro | refine Lf.mk ?_ ?_); all_goals intro hP)
            all_goals ((refine resX ?_; try exact True.intro))
          | ok a =>
            rw [hva] at hrun cA
            simp only at hrun
            cases hvb : valE st i0 i1 i2 i3 s.b with
            | error z =>
              rw [hvb] at hrun cB
              simp only at hrun
              rw [hrun] at c1 c2 cI
              have hz0 := valE_err s.b z hvb
              have hz : (z != 0) = true := by simp; omega
              have hz' : (z == 0) = false := by simp; omega
              simp only [runL, runE, vN, eN] at c1 c2 cI cA cB
              clear c3 e3 hrun
              (have rr1 := dr6_6_X31b; have rr2 := dr6_13_X31b; have rr3 := dr6_14_X31b; have rr4 := dr6_20_X31b; have ww1 := hl0'; have ww2 := g0; have ww3 := lt0; have ww4 := h2'; have ww5 := hz; have ww6 := hz'; have cc1 := fun z1 => c1 z1; have cc2 := fun z1 => c2 z1; have cc3 := fun z1 => cI z1; have cc4 := fun z1 => cT z1; have cc5 := fun z1 => cA z1; have cc6 := fun z1 => cB z1; refine wkS ?_; clear rr1 rr2 rr3 rr4 ww1 ww2 ww3 ww4 ww5 ww6 cc1 cc2 cc3 cc4 cc5 cc6; (repeat' first | exact True.intro | refine Lf.mk ?_ ?_); all_goals intro hP)
              all_goals ((refine resX ?_; try exact True.intro))
            | ok b =>
              rw [hvb] at hrun cB
              simp only at hrun
              simp only [vN, eN] at cA cB
              replace cH := cH a b
              have hww := choice_w s ss
              rw [← hLe] at hww
              obtain ⟨part, hpart, hokP, hwP⟩ : ∃ part, (if holdsS a s.rel b = true then s.thn else s.els) = part ∧ HOk us (part ++ ss) ∧ wSL (part ++ ss) ≤ wSL L := by
                refine ⟨_, rfl, ?_, ?_⟩ <;> split <;> first | assumption | exact hww.1 | exact hww.2
              have c4 := fun H => c3 (part ++ ss) hokP hwP H
              have e4 : runP vs (part ++ ss) st ⟨1, i0, i1, i2, i3⟩ = runM ⟨nm, vs, o0, L, o2, o3, o4, wn, pc⟩ st ⟨1, i0, i1, i2, i3⟩ := by
                rw [hrun, ← hpart]; split <;> rfl
              rw [e3 (part ++ ss) hokP, e4] at c4
              have hpl2 : part.length + ss.length ≤ 1000000 := by
                have := len_totL (part ++ ss)
                have := totL_le (part ++ ss)
                rw [List.length_append] at *
                omega
              have f1 : part.length * 168 ≤ 140737488355328 := by omega
              have f2 : part.length ≤ 9223372036854775807 := by omega
              have f3 : (part.length + ss.length) * 168 ≤ 140737488355328 := by omega
              have f4 : part.length + ss.length ≤ 9223372036854775807 := by omega
              have p1 : (part.map encS).map (fun r => r.map AV.pv) = sR8 part := rfl
              have p2 := sR8_app part ss
              have l1 := sR8_len part
              have hza := Nat.zero_add
              have hna : ∀ l : List (List AV), [] ++ l = l := List.nil_append
              have q2 : List.take (L.length - 1) (List.drop 1 (L.map encS)) = ss.map encS := by rw [hLe]; simp only [List.length_cons, Nat.add_sub_cancel, List.map_cons, List.drop_succ_cons, List.drop_zero]; exact List.take_of_length_le (by simp)
              have lt1 : (1 : Int) ≤ (L.length : Int) := by omega
              have cF := fun (y1 y2 y3 y4 : AObj) => ARun.frz (P := Tryz.prog) (f := 16) (t := 50) (sz := 13) (rows := (part ++ ss).map encS) (H0.length + 4) (H := H0 ++ [y1, y2, y3, y4, .arr 50 13 (sR8 (part ++ ss))])
                (args := [.agg [.pv (.sc (.string nm)), .rs 5 (vs.map encV), .rs 13 (o0.map encS), .os (H0.length + 4) 0 (part.length + ss.length) (part.length + ss.length), .rs 13 (o2.map encS), .rs 13 (o3.map encS), .rs 13 (o4.map encS), .i wn, .i pc], .rs 1 (rI st), .agg [.i 1, .i i0, .i i1, .i i2, .i i3]]) (getOk _ _ _) (c4 _)
                (by simp only [List.map_cons, List.map_nil, AV.frz, List.length_map, List.length_append, and_self, if_true]; (repeat' (first | exact trivial | exact Cv.refl _ | exact Cv.nil (Nat.succ_pos _) | exact PCv.refl _ | exact PCv.nil (Nat.succ_pos _) | refine And.intro ?_ ?_ | refine Cv.agg ?_ | refine Cv.tup ?_ | refine Cv.pv (PCv.rs ?_) | refine PCv.rs ?_)))
              simp only [setOk, List.set_cons_succ, List.set_cons_zero] at cF
              clear c3 e3 c4 e4 hrun hww hokT hokE hokP
              cases hh1 : holdsS a s.rel b with
              | true =>
                rw [hh1] at cH hpart
                simp only [if_true] at hpart
                rw [← hpart] at p1 p2 l1 f1 f2 f3 f4 cF
                clear hpart
                (have rr1 := dr6_6_X31b; have rr2 := dr6_13_X31b; have rr3 := dr6_14_X31b; have rr4 := dr6_20_X31b; have ww1 := hl0'; have ww2 := g0; have ww3 := lt0; have ww4 := h2'; have ww5 := f1; have ww6 := f2; have ww7 := f3; have ww8 := f4; have ww9 := p1; have ww10 := p2; have ww11 := l1; have ww12 := q2; have ww13 := lt1; have ww14 := hna; have ww15 := hza; have cc1 := fun z1 => c1 z1; have cc2 := fun z1 => c2 z1; have cc3 := fun z1 => cI z1; have cc4 := fun z1 => cT z1; have cc5 := fun z1 => cA z1; have cc6 := fun z1 => cB z1; have cc7 := fun z1 => cH z1; have cc8 := fun z1 z2 z3 z4 => cF z1 z2 z3 z4; refine wkS ?_; clear rr1 rr2 rr3 rr4 ww1 ww2 ww3 ww4 ww5 ww6 ww7 ww8 ww9 ww10 ww11 ww12 ww13 ww14 ww15 cc1 cc2 cc3 cc4 cc5 cc6 cc7 cc8; (repeat' first | exact True.intro | refine Lf.mk ?_ ?_); all_goals intro hP)
                all_goals ((refine resX ?_; try exact True.intro))
              | false =>
                rw [hh1] at cH hpart
                simp only [Bool.false_eq_true, if_false] at hpart
                rw [← hpart] at p1 p2 l1 f1 f2 f3 f4 cF
                clear hpart
                (have rr1 := dr6_6_X31b; have rr2 := dr6_13_X31b; have rr3 := dr6_14_X31b; have rr4 := dr6_20_X31b; have ww1 := hl0'; have ww2 := g0; have ww3 := lt0; have ww4 := h2'; have ww5 := f1; have ww6 := f2; have ww7 := f3; have ww8 := f4; have ww9 := p1; have ww10 := p2; have ww11 := l1; have ww12 := q2; have ww13 := lt1; have ww14 := hna; have ww15 := hza; have cc1 := fun z1 => c1 z1; have cc2 := fun z1 => c2 z1; have cc3 := fun z1 => cI z1; have cc4 := fun z1 => cT z1; have cc5 := fun z1 => cA z1; have cc6 := fun z1 => cB z1; have cc7 := fun z1 => cH z1; have cc8 := fun z1 z2 z3 z4 => cF z1 z2 z3 z4; refine wkS ?_; clear rr1 rr2 rr3 rr4 ww1 ww2 ww3 ww4 ww5 ww6 ww7 ww8 ww9 ww10 ww11 ww12 ww13 ww14 ww15 cc1 cc2 cc3 cc4 cc5 cc6 cc7 cc8; (repeat' first | exact True.intro | refine Lf.mk ?_ ?_); all_goals intro hP)
                all_goals ((refine resX ?_; try exact True.intro))
        · have h2' : (s.kind != 2) = true := by simpa using h2
          clear c3 e3 cEv
          (have rr1 := dr6_6_X31b; have rr2 := dr6_13_X31b; have rr3 := dr6_14_X31b; have rr4 := dr6_20_X31b; have ww1 := hl0'; have ww2 := g0; have ww3 := lt0; have ww4 := h2'; have cc1 := fun z1 => c1 z1; have cc2 := fun z1 => c2 z1; have cc3 := fun z1 => cI z1; have cc4 := fun z1 => cT z1; refine wkS ?_; clear rr1 rr2 rr3 rr4 ww1 ww2 ww3 ww4 cc1 cc2 cc3 cc4; (repeat' first | exact True.intro | refine Lf.mk ?_ ?_); all_goals intro hP)
          all_goals ((refine resX ?_; try exact True.intro))
    · simp only [List.forall_mem_cons, List.not_mem_nil, false_implies, implies_true, and_true, go_sem, Nat.reduceAdd, Nat.reduceSub, Nat.reduceMul, Nat.reduceLeDiff, Nat.reduceLT, Nat.reduceEqDiff, Int.reduceToNat, Int.reduceAdd, Int.reduceMul, Int.reduceSub, Int.reduceLT, Int.reduceLE, Int.reduceEq, Int.reduceNeg, Int.reduceBEq, Int.reduceBNe, ↓reduceIte, reduceCtorEq, pick, List.length_map]
      (have rr1 := dr6_6_X31b; have rr2 := dr6_13_X31b; have rr3 := dr6_14_X31b; have rr4 := dr6_20_X31b; refine wkS ?_; clear rr1 rr2 rr3 rr4; (repeat' first | exact True.intro | refine Lf.mk ?_ ?_); all_goals intro hP)
      all_goals (first | ((refine hW _ _ (Wk.perm0 [0, 1, 2, 3] (by decide) ?_ ?_)) <;> (simp only [PermL, FgtR, AObj.ren, AV.ren, AV.under, AObj.under, AL.perm_0, AL.perm_k, List.map_cons, List.map_nil, List.map_map, List.map_replicate, List.replicate_succ, List.getD_cons_zero, List.getD_cons_succ, List.getElem?_cons_zero, List.getElem?_cons_succ, List.length_cons, List.length_nil, Nat.add_zero, Nat.zero_add, Nat.reduceAdd, Nat.add_lt_add_iff_left, Nat.reduceLT, Nat.lt_add_right_iff_pos, List.forall_mem_cons, List.mem_cons, List.not_mem_nil, forall_eq_or_imp, forall_eq, false_implies, implies_true, reduceCtorEq, false_or, true_or, or_true, and_true, true_and, and_self, List.forall_mem_map, List.mem_map, forall_exists_index, and_imp, forall_apply_eq_imp_iff₂, Function.comp_def]) <;> (first | (intro a _ ha c hc; subst ha; simp only [List.mem_singleton] at hc; subst hc; simp only [AV.under]))) | ((refine hW _ _ (Wk.perm0 [0, 1, 3, 2] (by decide) ?_ ?_)) <;> (simp only [PermL, FgtR, AObj.ren, AV.ren, AV.under, AObj.under, AL.perm_0, AL.perm_k, List.map_cons, List.map_nil, List.map_map, List.map_replicate, List.replicate_succ, List.getD_cons_zero, List.getD_cons_succ, List.getElem?_cons_zero, List.getElem?_cons_succ, List.length_cons, List.length_nil, Nat.add_zero, Nat.zero_add, Nat.reduceAdd, Nat.add_lt_add_iff_left, Nat.reduceLT, Nat.lt_add_right_iff_pos, List.forall_mem_cons, List.mem_cons, List.not_mem_nil, forall_eq_or_imp, forall_eq, false_implies, implies_true, reduceCtorEq, false_or, true_or, or_true, and_true, true_and, and_self, List.forall_mem_map, List.mem_map, forall_exists_index, and_imp, forall_apply_eq_imp_iff₂, Function.comp_def]) <;> (first | (intro a _ ha c hc; subst ha; simp only [List.mem_singleton] at hc; subst hc; simp only [AV.under]))))
theorem dr6_6_X31c : Drawn Tryz.prog 6 (regOps 6 ((Tryz.f6.body).getD .skip)) [3, 6] [] [.win [0, 1], .win [0, 1], .win [0], .eff 0, .win [0, 1], .win [1], .eff 1] 2 [] := ⟨rfl, by as_aux_lemma => kernel_rfl⟩
theorem dr6_13_X31c : Drawn Tryz.prog 13 (regOps 13 ((Tryz.f6.body).getD .skip)) [7] [] [.win [0], .win [0], .win [0], .win [0], .win [0], .win [0], .win [0], .eff 0, .win [1], .win [1], .win [1], .win [1], .win [1]] 1 [] := ⟨rfl, by as_aux_lemma => kernel_rfl⟩
theorem dr6_14_X31c : Drawn Tryz.prog 14 (regOps 14 ((Tryz.f6.body).getD .skip)) [7] [] [.win [0], .win [0], .win [0], .win [0], .win [0], .win [0], .win [0], .eff 0, .win [1], .win [1], .win [1], .win [1], .win [1]] 1 [] := ⟨rfl, by as_aux_lemma => kernel_rfl⟩
theorem dr6_20_X31c : Drawn Tryz.prog 20 (regOps 20 ((Tryz.f6.body).getD .skip)) [2, 4, 7, 10] [] [.win [0, 1, 2, 3], .win [0, 1, 2, 3], .eff 0, .win [0, 1], .eff 1, .win [0, 1, 2], .win [0, 1, 2], .eff 2, .win [0, 1, 2, 3], .win [3], .eff 3] 4 [] := ⟨rfl, by as_aux_lemma => kernel_rfl⟩
theorem MeaningChoice_2 (p : Prg) (st : List Int) (x : Cal) (hp : PF p) (huse : useB p st x = true) (hxe : x.ev = 2) (H0 : List AObj) :
    ARun Tryz.prog 6 [.ag (cP p), .rs 1 (rI st), agL x] H0 (.ret (.b true) H0) := by
  have hh := fun H => head8_run H
  have hu := fun H => usable8_run p hp st x H
  rw [huse] at hu
  obtain ⟨hfew, hv, hs, hc⟩ := useB_all huse
  have pm := hp.pm hfew
  obtain ⟨us, V⟩ := validB_val hv
  have hL := val_hok V x.ev.toNat
  have hev5 := call_ev hc
  have hsl := stIn_len hs
  have hfa := few5_all hfew
  have hpl : p.vars.length ≤ 20 := by omega
  have c1 := fun H => pm.mrun st x H
  have htw : wSL (turnL (handP p x.ev.toNat)) ≤ wSL (handP p x.ev.toNat) := by rw [(turnL_sm _).2.2]; exact Nat.le_refl _
  have c2 := fun H => (pm.put (k := x.ev.toNat) (by omega) htw).mrun st x H
  have e2 : runM (putP p x.ev.toNat (turnL (handP p x.ev.toNat))) st x = runM p st x := by
    rw [runM_put hc hs hv V hL.turn, runM_is hc hs hv]
    exact turnL_run _ hL.1 st
  rw [e2] at c2
  have l2 := runM_len p st x
  have cI := fun H => Ints_run (runL (runM p st x)) (runL (runM p st x)) (by omega) H
  rw [beq_self_eq_true] at cI
  have hT : totL (handP p x.ev.toNat) ≤ 1000000 := by
    have h9 := pm.w
    have h8 := totL_le (handP p x.ev.toNat)
    have : wSL (handP p x.ev.toNat) ≤ 900000 := by unfold handP; (repeat' split) <;> omega
    omega
  have hT2 := len_totL (handP p x.ev.toNat)
  have cT := fun H => turned8_run _ (handP p x.ev.toNat) (Nat.le_refl _) hT H
  have hM := runM_is hc hs hv
  have c3 := fun l (hl : HOk us l) (hw : wSL l ≤ wSL (handP p x.ev.toNat)) H => (pm.put (k := x.ev.toNat) (by omega) hw).mrun st x H
  have e3 := fun l (hl : HOk us l) => runM_put (st := st) hc hs hv V hl
  have cEv := fun (e : Ex) H => MEval_run st (by omega) x.i0 x.i1 x.i2 x.i3 e H
  have hTw : wSL (handP p x.ev.toNat) ≤ 900000 := by
    have h9 := pm.w
    unfold handP; (repeat' split) <;> omega
  clear huse hfew hfa e2 htw
  obtain ⟨ev, i0, i1, i2, i3⟩ := x
  simp only at hev5
  subst hxe
  · obtain ⟨nm, vs, o0, o1, L, o3, o4, wn, pc⟩ := p
    simp only [Int.reduceToNat, Int.toNat_zero, Int.toNat_one, handP, if_true, if_false, Nat.reduceEqDiff, reduceIte, putP, onP, one_ne_zero', zero_ne_one'] at *
    (refine ARun.intro Tryz.func6 rfl Tryz.call6 Tryz.ntmps6 Tryz.results6 ?_; simp only [List.length_cons, List.length_nil, List.length_map, Nat.reduceAdd, Nat.reduceSub, List.replicate_succ, List.replicate_zero, List.cons_append, List.nil_append])
    (have rr1 := dr6_6_X31c; have rr2 := dr6_13_X31c; have rr3 := dr6_14_X31c; have rr4 := dr6_20_X31c; have cc1 := fun z1 => hh z1; have cc2 := fun z1 => hu z1; refine wkS ?_; clear rr1 rr2 rr3 rr4 cc1 cc2; (repeat' first | exact True.intro | refine Lf.mk ?_ ?_); all_goals intro hP)
    refine awp_drawnO_c (id := 5) [2, 3, 4, 5] [([2, 3, 4, 5], [0, 1, 2, 3, 4, 5], [.win [0, 1, 2], .win [0, 1, 2, 3], .eff 0, .eff 1, .eff 2, .eff 3]), ([3, 2, 4, 5], [0, 1, 3, 2, 4, 5], [.win [0, 1, 2], .win [0, 1, 2, 3], .eff 1, .eff 0, .eff 2, .eff 3])] 4 rfl (by as_aux_lemma => kernel_rfl) ((.any :: .rs 1 (rI st) :: .any :: .p H0.length 0 :: .any :: .p (H0.length + 1) 0 :: .any :: .b true :: .rs 13 (L.map encS) :: .p (H0.length + 2) 0 :: .p (H0.length + 3) 0 :: .any :: .any :: .any :: .any :: .any :: .any :: .any :: .any :: .any :: .any :: .any :: .any :: .any :: .any :: .any :: .any :: .any :: .any :: .any :: .any :: .any :: .any :: .any :: .any :: .any :: .any :: .any :: .any :: .any :: .any :: .any :: .any :: .any :: .any :: .any :: .any :: .any :: .any :: .any :: .any :: .any :: .any :: .any :: .any :: .any :: .any :: .any :: .any :: .any :: .any :: .any :: .any :: .any :: .any :: .any :: .any :: .any :: .any :: .any :: .any :: .any :: .any :: .any :: .any :: .any :: .any :: .any :: .any :: .any :: .any :: .any :: .any :: .any :: .any :: .any :: .any :: .any :: .any :: .any :: .any :: .any :: .any :: .any :: .any :: .any :: .any :: .any :: .any :: .any :: .any :: .any :: .any :: .any :: .any :: .any :: .any :: .any :: .any :: .any :: .any :: .any :: .any :: .any :: .any :: .any :: .any :: .any :: .any :: .any :: .any :: .any :: .any :: .any :: .any :: .any :: .any :: .any :: .any :: .any :: .any :: .any :: .any :: .any :: .any :: .any :: .any :: .any :: .any :: .any :: .any :: .any :: .any :: .any :: .any :: .any :: .any :: .any :: .any :: .any :: .any :: .any :: .any :: .any :: .any :: .any :: .any :: .any :: .any :: .any :: .any :: .any :: .any :: .any :: .any :: .any :: []))
      (H0 ++ [.cells 26 [.pv (.sc (.string nm)), .rs 5 (vs.map encV), .rs 13 (o0.map encS), .rs 13 (o1.map encS), .rs 13 (L.map encS), .rs 13 (o3.map encS), .rs 13 (o4.map encS), .i wn, .i pc], .cells 30 [.i 2, .i i0, .i i1, .i i2, .i i3], .cells 26 [.pv (.sc (.string nm)), .rs 5 (vs.map encV), .rs 13 (o0.map encS), .rs 13 (o1.map encS), .rs 13 (L.map encS), .rs 13 (o3.map encS), .rs 13 (o4.map encS), .i wn, .i pc], .cells 26 [.pv (.sc (.string nm)), .rs 5 (vs.map encV), .rs 13 (o0.map encS), .rs 13 (o1.map encS), .rs 13 (L.map encS), .rs 13 (o3.map encS), .rs 13 (o4.map encS), .i wn, .i pc]]) (fun tm H wk h => by simp only [AEx.thn] at h ⊢; exact awp_wk wk h) ?_ (fun Kp W hW => ?_)
    · simp only [AEx.thn]
      by_cases hl0 : L.length = 0
      · have hLe : L = [] := List.eq_nil_of_length_eq_zero hl0
        have hl0' : ((L.length : Int) == 0) = true := by simp; exact hLe
        (have rr1 := dr6_6_X31c; have rr2 := dr6_13_X31c; have rr3 := dr6_14_X31c; have rr4 := dr6_20_X31c; have ww1 := hl0'; have cc1 := fun z1 => c1 z1; have cc2 := fun z1 => c2 z1; have cc3 := fun z1 => cI z1; have cc4 := fun z1 => cT z1; refine wkS ?_; clear rr1 rr2 rr3 rr4 ww1 cc1 cc2 cc3 cc4; (repeat' first | exact True.intro | refine Lf.mk ?_ ?_); all_goals intro hP)
        all_goals ((refine resX ?_; try exact True.intro))
      · obtain ⟨s, ss, hLe⟩ : ∃ s ss, L = s :: ss := by match L, hl0 with | s :: ss, _ => exact ⟨s, ss, rfl⟩
        have hl0' : ((L.length : Int) == 0) = false := by simp; intro h; exact hl0 (by rw [h]; rfl)
        have g0 : (L.map encS)[0]? = some (cS s) := by rw [hLe]; exact congrArg some (encS_eq s)
        have lt0 : (0 : Int) < (L.length : Int) := by omega
        by_cases h2 : s.kind = 2
        · have h2' : (s.kind != 2) = false := by simpa using h2
          obtain ⟨hr1, hr2, na, nb, hokT, hokE, _, _⟩ := choice_head (hLe ▸ hL) h2
          have hrun := choice_err (vs := vs) (st := st) (x := ⟨2, i0, i1, i2, i3⟩) (ss := ss) h2
          rw [← hLe, ← hM] at hrun
          have cA := fun H => cEv s.a H
          have cB := fun H => cEv s.b H
          rw [eval_is (us := us) na] at cA
          rw [eval_is (us := us) nb] at cB
          have cH := fun a b H => RHolds_run a s.rel b ⟨hr1, hr2⟩ H
          simp only at hrun
          clear cEv hM
          cases hva : valE st i0 i1 i2 i3 s.a with
          | error z =>
            rw [hva] at hrun cA
            simp only at hrun
            rw [hrun] at c1 c2 cI
            have hz0 := valE_err s.a z hva
            have hz : (z != 0) = true := by simp; omega
            have hz' : (z == 0) = false := by simp; omega
            simp only [runL, runE, vN, eN] at c1 c2 cI cA
            generalize vN (valE st i0 i1 i2 i3 s.b) = B1 at *
            generalize eN (valE st i0 i1 i2 i3 s.b) = B2 at *
            clear c3 e3 hrun
            (have rr1 := dr6_6_X31c; have rr2 := dr6_13_X31c; have rr3 := dr6_14_X31c; have rr4 := dr6_20_X31c; have ww1 := hl0'; have ww2 := g0; have ww3 := lt0; have ww4 := h2'; have ww5 := hz; have ww6 := hz'; have cc1 := fun z1 => c1 z1; have cc2 := fun z1 => c2 z1; have cc3 := fun z1 => cI z1; have cc4 := fun z1 => cT z1; have cc5 := fun z1 => cA z1; have cc6 := fun z1 => cB z1; refine wkS ?_; clear rr1 rr2 rr3 rr4 ww1 ww2 ww3 ww4 ww5 ww6 cc1 cc2 cc3 cc4 cc5 cc6; (repeat' first | exact True.intro | refine Lf.mk ?_ ?_); all_goals intro hP)
            all_goals ((refine resX ?_; try exact True.intro))
          | ok a =>
            rw [hva] at hrun cA
            simp only at hrun
            cases hvb : valE st i0 i1 i2 i3 s.b with
            | error z =>
              rw [hvb] at hrun cB
              simp only at hrun
              rw [hrun] at c1 c2 cI
              have hz0 := valE_err s.b z hvb
              have hz : (z != 0) = true := by simp; omega
              have hz' : (z == 0) = false := by simp; omega
              simp only [runL, runE, vN, eN] at c1 c2 cI cA cB
              clear c3 e3 hrun
              (have rr1 := dr6_6_X31c; have rr2 := dr6_13_X31c; have rr3 := dr6_14_X31c; have rr4 := dr6_20_X31c; have ww1 := hl0'; have ww2 := g0; have ww3 := lt0; have ww4 := h2'; have ww5 := hz; have ww6 := hz'; have cc1 := fun z1 => c1 z1; have cc2 := fun z1 => c2 z1; have cc3 := fun z1 => cI z1; have cc4 := fun z1 => cT z1; have cc5 := fun z1 => cA z1; have cc6 := fun z1 => cB z1; refine wkS ?_; clear rr1 rr2 rr3 rr4 ww1 ww2 ww3 ww4 ww5 ww6 cc1 cc2 cc3 cc4 cc5 cc6; (repeat' first | exact True.intro | refine Lf.mk ?_ ?_); all_goals intro hP)
              all_goals ((refine resX ?_; try exact True.intro))
            | ok b =>
              rw [hvb] at hrun cB
              simp only at hrun
              simp only [vN, eN] at cA cB
              replace cH := cH a b
              have hww := choice_w s ss
              rw [← hLe] at hww
              obtain ⟨part, hpart, hokP, hwP⟩ : ∃ part, (if holdsS a s.rel b = true then s.thn else s.els) = part ∧ HOk us (part ++ ss) ∧ wSL (part ++ ss) ≤ wSL L := by
                refine ⟨_, rfl, ?_, ?_⟩ <;> split <;> first | assumption | exact hww.1 | exact hww.2
              have c4 := fun H => c3 (part ++ ss) hokP hwP H
              have e4 : runP vs (part ++ ss) st ⟨2, i0, i1, i2, i3⟩ = runM ⟨nm, vs, o0, o1, L, o3, o4, wn, pc⟩ st ⟨2, i0, i1, i2, i3⟩ := by
                rw [hrun, ← hpart]; split <;> rfl
              rw [e3 (part ++ ss) hokP, e4] at c4
              have hpl2 : part.length + ss.length ≤ 1000000 := by
                have := len_totL (part ++ ss)
                have := totL_le (part ++ ss)
                rw [List.length_append] at *
                omega
              have f1 : part.length * 168 ≤ 140737488355328 := by omega
              have f2 : part.length ≤ 9223372036854775807 := by omega
              have f3 : (part.length + ss.length) * 168 ≤ 140737488355328 := by omega
              have f4 : part.length + ss.length ≤ 9223372036854775807 := by omega
              have p1 : (part.map encS).map (fun r => r.map AV.pv) = sR8 part := rfl
              have p2 := sR8_app part ss
              have l1 := sR8_len part
              have hza := Nat.zero_add
              have hna : ∀ l : List (List AV), [] ++ l = l := List.nil_append
              have q2 : List.take (L.length - 1) (List.drop 1 (L.map encS)) = ss.map encS := by rw [hLe]; simp only [List.length_cons, Nat.add_sub_cancel, List.map_cons, List.drop_succ_cons, List.drop_zero]; exact List.take_of_length_le (by simp)
              have lt1 : (1 : Int) ≤ (L.length : Int) := by omega
              have cF := fun (y1 y2 y3 y4 : AObj) => ARun.frz (P := Tryz.prog) (f := 16) (t := 50) (sz := 13) (rows := (part ++ ss).map encS) (H0.length + 4) (H := H0 ++ [y1, y2, y3, y4, .arr 50 13 (sR8 (part ++ ss))])
                (args := [.agg [.pv (.sc (.string nm)), .rs 5 (vs.map encV), .rs 13 (o0.map encS), .rs 13 (o1.map encS), .os (H0.length + 4) 0 (part.length + ss.length) (part.length + ss.length), .rs 13 (o3.map encS), .rs 13 (o4.map encS), .i wn, .i pc], .rs 1 (rI st), .agg [.i 2, .i i0, .i i1, .i i2, .i i3]]) (getOk _ _ _) (c4 _)
                (by simp only [List.map_cons, List.map_nil, AV.frz, List.length_map, List.length_append, and_self, if_true]; (repeat' (first | exact trivial | exact Cv.refl _ | exact Cv.nil (Nat.succ_pos _) | exact PCv.refl _ | exact PCv.nil (Nat.succ_pos _) | refine And.intro ?_ ?_ | refine Cv.agg ?_ | refine Cv.tup ?_ | refine Cv.pv (PCv.rs ?_) | refine PCv.rs ?_)))
              simp only [setOk, List.set_cons_succ, List.set_cons_zero] at cF
              clear c3 e3 c4 e4 hrun hww hokT hokE hokP
              cases hh1 : holdsS a s.rel b with
              | true =>
                rw [hh1] at cH hpart
                simp only [if_true] at hpart
                rw [← hpart] at p1 p2 l1 f1 f2 f3 f4 cF
                clear hpart
                (have rr1 := dr6_6_X31c; have rr2 := dr6_13_X31c; have rr3 := dr6_14_X31c; have rr4 := dr6_20_X31c; have ww1 := hl0'; have ww2 := g0; have ww3 := lt0; have ww4 := h2'; have ww5 := f1; have ww6 := f2; have ww7 := f3; have ww8 := f4; have ww9 := p1; have ww10 := p2; have ww11 := l1; have ww12 := q2; have ww13 := lt1; have ww14 := hna; have ww15 := hza; have cc1 := fun z1 => c1 z1; have cc2 := fun z1 => c2 z1; have cc3 := fun z1 => cI z1; have cc4 := fun z1 => cT z1; have cc5 := fun z1 => cA z1; have cc6 := fun z1 => cB z1; have cc7 := fun z1 => cH z1; have cc8 := fun z1 z2 z3 z4 => cF z1 z2 z3 z4; refine wkS ?_; clear rr1 rr2 rr3 rr4 ww1 ww2 ww3 ww4 ww5 ww6 ww7 ww8 ww9 ww10 ww11 ww12 ww13 ww14 ww15 cc1 cc2 cc3 cc4 cc5 cc6 cc7 cc8; (repeat' first | exact True.intro | refine Lf.mk ?_ ?_); all_goals intro hP)
                all_goals ((refine resX ?_; try exact True.intro))
              | false =>
                rw [hh1] at cH hpart
                simp only [Bool.false_eq_true, if_false] at hpart
                rw [← hpart] at p1 p2 l1 f1 f2 f3 f4 cF
                clear hpart
                (have rr1 := dr6_6_X31c; have rr2 := dr6_13_X31c; have rr3 := dr6_14_X31c; have rr4 := dr6_20_X31c; have ww1 := hl0'; have ww2 := g0; have ww3 := lt0; have ww4 := h2'; have ww5 := f1; have ww6 := f2; have ww7 := f3; have ww8 := f4; have ww9 := p1; have ww10 := p2; have ww11 := l1; have ww12 := q2; have ww13 := lt1; have ww14 := hna; have ww15 := hza; have cc1 := fun z1 => c1 z1; have cc2 := fun z1 => c2 z1; have cc3 := fun z1 => cI z1; have cc4 := fun z1 => cT z1; have cc5 := fun z1 => cA z1; have cc6 := fun z1 => cB z1; have cc7 := fun z1 => cH z1; have cc8 := fun z1 z2 z3 z4 => cF z1 z2 z3 z4; refine wkS ?_; clear rr1 rr2 rr3 rr4 ww1 ww2 ww3 ww4 ww5 ww6 ww7 ww8 ww9 ww10 ww11 ww12 ww13 ww14 ww15 cc1 cc2 cc3 cc4 cc5 cc6 cc7 cc8; (repeat' first | exact True.intro | refine Lf.mk ?_ ?_); all_goals intro hP)
                all_goals ((refine resX ?_; try exact True.intro))
        · have h2' : (s.kind != 2) = true := by simpa using h2
          clear c3 e3 cEv
          (have rr1 := dr6_6_X31c; have rr2 := dr6_13_X31c; have rr3 := dr6_14_X31c; have rr4 := dr6_20_X31c; have ww1 := hl0'; have ww2 := g0; have ww3 := lt0; have ww4 := h2'; have cc1 := fun z1 => c1 z1; have cc2 := fun z1 => c2 z1; have cc3 := fun z1 => cI z1; have cc4 := fun z1 => cT z1; refine wkS ?_; clear rr1 rr2 rr3 rr4 ww1 ww2 ww3 ww4 cc1 cc2 cc3 cc4; (repeat' first | exact True.intro | refine Lf.mk ?_ ?_); all_goals intro hP)
          all_goals ((refine resX ?_; try exact True.intro))
    · simp only [List.forall_mem_cons, List.not_mem_nil, false_implies, implies_true, and_true, go_sem, Nat.reduceAdd, Nat.reduceSub, Nat.reduceMul, Nat.reduceLeDiff, Nat.reduceLT, Nat.reduceEqDiff, Int.reduceToNat, Int.reduceAdd, Int.reduceMul, Int.reduceSub, Int.reduceLT, Int.reduceLE, Int.reduceEq, Int.reduceNeg, Int.reduceBEq, Int.reduceBNe, ↓reduceIte, reduceCtorEq, pick, List.length_map]
      (have rr1 := dr6_6_X31c; have rr2 := dr6_13_X31c; have rr3 := dr6_14_X31c; have rr4 := dr6_20_X31c; refine wkS ?_; clear rr1 rr2 rr3 rr4; (repeat' first | exact True.intro | refine Lf.mk ?_ ?_); all_goals intro hP)
      all_goals (first | ((refine hW _ _ (Wk.perm0 [0, 1, 2, 3] (by decide) ?_ ?_)) <;> (simp only [PermL, FgtR, AObj.ren, AV.ren, AV.under, AObj.under, AL.perm_0, AL.perm_k, List.map_cons, List.map_nil, List.map_map, List.map_replicate, List.replicate_succ, List.getD_cons_zero, List.getD_cons_succ, List.getElem?_cons_zero, List.getElem?_cons_succ, List.length_cons, List.length_nil, Nat.add_zero, Nat.zero_add, Nat.reduceAdd, Nat.add_lt_add_iff_left, Nat.reduceLT, Nat.lt_add_right_iff_pos, List.forall_mem_cons, List.mem_cons, List.not_mem_nil, forall_eq_or_imp, forall_eq, false_implies, implies_true, reduceCtorEq, false_or, true_or, or_true, and_true, true_and, and_self, List.forall_mem_map, List.mem_map, forall_exists_index, and_imp, forall_apply_eq_imp_iff₂, Function.comp_def]) <;> (first | (intro a _ ha c hc; subst ha; simp only [List.mem_singleton] at hc; subst hc; simp only [AV.under]))) | ((refine hW _ _ (Wk.perm0 [0, 1, 3, 2] (by decide) ?_ ?_)) <;> (simp only [PermL, FgtR, AObj.ren, AV.ren, AV.under, AObj.under, AL.perm_0, AL.perm_k, List.map_cons, List.map_nil, List.map_map, List.map_replicate, List.replicate_succ, List.getD_cons_zero, List.getD_cons_succ, List.getElem?_cons_zero, List.getElem?_cons_succ, List.length_cons, List.length_nil, Nat.add_zero, Nat.zero_add, Nat.reduceAdd, Nat.add_lt_add_iff_left, Nat.reduceLT, Nat.lt_add_right_iff_pos, List.forall_mem_cons, List.mem_cons, List.not_mem_nil, forall_eq_or_imp, forall_eq, false_implies, implies_true, reduceCtorEq, false_or, true_or, or_true, and_true, true_and, and_self, List.forall_mem_map, List.mem_map, forall_exists_index, and_imp, forall_apply_eq_imp_iff₂, Function.comp_def]) <;> (first | (intro a _ ha c hc; subst ha; simp only [List.mem_singleton] at hc; subst hc; simp only [AV.under]))))
theorem dr6_6_X31d : Drawn Tryz.prog 6 (regOps 6 ((Tryz.f6.body).getD .skip)) [3, 6] [] [.win [0, 1], .win [0, 1], .win [0], .eff 0, .win [0, 1], .win [1], .eff 1] 2 [] := ⟨rfl, by as_aux_lemma => kernel_rfl⟩
theorem dr6_13_X31d : Drawn Tryz.prog 13 (regOps 13 ((Tryz.f6.body).getD .skip)) [7] [] [.win [0], .win [0], .win [0], .win [0], .win [0], .win [0], .win [0], .eff 0, .win [1], .win [1], .win [1], .win [1], .win [1]] 1 [] := ⟨rfl, by as_aux_lemma => kernel_rfl⟩
theorem dr6_14_X31d : Drawn Tryz.prog 14 (regOps 14 ((Tryz.f6.body).getD .skip)) [7] [] [.win [0], .win [0], .win [0], .win [0], .win [0], .win [0], .win [0], .eff 0, .win [1], .win [1], .win [1], .win [1], .win [1]] 1 [] := ⟨rfl, by as_aux_lemma => kernel_rfl⟩
theorem dr6_20_X31d : Drawn Tryz.prog 20 (regOps 20 ((Tryz.f6.body).getD .skip)) [2, 4, 7, 10] [] [.win [0, 1, 2, 3], .win [0, 1, 2, 3], .eff 0, .win [0, 1], .eff 1, .win [0, 1, 2], .win [0, 1, 2], .eff 2, .win [0, 1, 2, 3], .win [3], .eff 3] 4 [] := ⟨rfl, by as_aux_lemma => kernel_rfl⟩
theorem MeaningChoice_3 (p : Prg) (st : List Int) (x : Cal) (hp : PF p) (huse : useB p st x = true) (hxe : x.ev = 3) (H0 : List AObj) :
    ARun Tryz.prog 6 [.ag (cP p), .rs 1 (rI st), agL x] H0 (.ret (.b true) H0) := by
  have hh := fun H => head8_run H
  have hu := fun H => usable8_run p hp st x H
  rw [huse] at hu
  obtain ⟨hfew, hv, hs, hc⟩ := useB_all huse
  have pm := hp.pm hfew
  obtain ⟨us, V⟩ := validB_val hv
  have hL := val_hok V x.ev.toNat
  have hev5 := call_ev hc
  have hsl := stIn_len hs
  have hfa := few5_all hfew
  have hpl : p.vars.length ≤ 20 := by omega
  have c1 := fun H => pm.mrun st x H
  have htw : wSL (turnL (handP p x.ev.toNat)) ≤ wSL (handP p x.ev.toNat) := by rw [(turnL_sm _).2.2]; exact Nat.le_refl _
  have c2 := fun H => (pm.put (k := x.ev.toNat) (by omega) htw).mrun st x H
  have e2 : runM (putP p x.ev.toNat (turnL (handP p x.ev.toNat))) st x = runM p st x := by
    rw [runM_put hc hs hv V hL.turn, runM_is hc hs hv]
    exact turnL_run _ hL.1 st
  rw [e2] at c2
  have l2 := runM_len p st x
  have cI := fun H => Ints_run (runL (runM p st x)) (runL (runM p st x)) (by omega) H
  rw [beq_self_eq_true] at cI
  have hT : totL (handP p x.ev.toNat) ≤ 1000000 := by
    have h9 := pm.w
    have h8 := totL_le (handP p x.ev.toNat)
    have : wSL (handP p x.ev.toNat) ≤ 900000 := by unfold handP; (repeat' split) <;> omega
    omega
  have hT2 := len_totL (handP p x.ev.toNat)
  have cT := fun H => turned8_run _ (handP p x.ev.toNat) (Nat.le_refl _) hT H
  have hM := runM_is hc hs hv
  have c3 := fun l (hl : HOk us l) (hw : wSL l ≤ wSL (handP p x.ev.toNat)) H => (pm.put (k := x.ev.toNat) (by omega) hw).mrun st x H
  have e3 := fun l (hl : HOk us l) => runM_put (st := st) hc hs hv V hl
  have cEv := fun (e : Ex) H => MEval_run st (by omega) x.i0 x.i1 x.i2 x.i3 e H
  have hTw : wSL (handP p x.ev.toNat) ≤ 900000 := by
    have h9 := pm.w
    unfold handP; (repeat' split) <;> omega
  clear huse hfew hfa e2 htw
  obtain ⟨ev, i0, i1, i2, i3⟩ := x
  simp only at hev5
  subst hxe
  · obtain ⟨nm, vs, o0, o1, o2, L, o4, wn, pc⟩ := p
    simp only [Int.reduceToNat, Int.toNat_zero, Int.toNat_one, handP, if_true, if_false, Nat.reduceEqDiff, reduceIte, putP, onP, one_ne_zero', zero_ne_one'] at *
    (refine ARun.intro Tryz.func6 rfl Tryz.call6 Tryz.ntmps6 Tryz.results6 ?_; simp only [List.length_cons, List.length_nil, List.length_map, Nat.reduceAdd, Nat.reduceSub, List.replicate_succ, List.replicate_zero, List.cons_append, List.nil_append])
    (have rr1 := dr6_6_X31d; have rr2 := dr6_13_X31d; have rr3 := dr6_14_X31d; have rr4 := dr6_20_X31d; have cc1 := fun z1 => hh z1; have cc2 := fun z1 => hu z1; refine wkS ?_; clear rr1 rr2 rr3 rr4 cc1 cc2; (repeat' first | exact True.intro | refine Lf.mk ?_ ?_); all_goals intro hP)
    refine awp_drawnO_c (id := 5) [2, 3, 4, 5] [([2, 3, 4, 5], [0, 1, 2, 3, 4, 5], [.win [0, 1, 2], .win [0, 1, 2, 3], .eff 0, .eff 1, .eff 2, .eff 3]), ([3, 2, 4, 5], [0, 1, 3, 2, 4, 5], [.win [0, 1, 2], .win [0, 1, 2, 3], .eff 1, .eff 0, .eff 2, .eff 3])] 4 rfl (by as_aux_lemma => kernel_rfl) ((.any :: .rs 1 (rI st) :: .any :: .p H0.length 0 :: .any :: .p (H0.length + 1) 0 :: .any :: .b true :: .rs 13 (L.map encS) :: .p (H0.length + 2) 0 :: .p (H0.length + 3) 0 :: .any :: .any :: .any :: .any :: .any :: .any :: .any :: .any :: .any :: .any :: .any :: .any :: .any :: .any :: .any :: .any :: .any :: .any :: .any :: .any :: .any :: .any :: .any :: .any :: .any :: .any :: .any :: .any :: .any :: .any :: .any :: .any :: .any :: .any :: .any :: .any :: .any :: .any :: .any :: .any :: .any :: .any :: .any :: .any :: .any :: .any :: .any :: .any :: .any :: .any :: .any :: .any :: .any :: .any :: .any :: .any :: .any :: .any :: .any :: .any :: .any :: .any :: .any :: .any :: .any :: .any :: .any :: .any :: .any :: .any :: .any :: .any :: .any :: .any :: .any :: .any :: .any :: .any :: .any :: .any :: .any :: .any :: .any :: .any :: .any :: .any :: .any :: .any :: .any :: .any :: .any :: .any :: .any :: .any :: .any :: .any :: .any :: .any :: .any :: .any :: .any :: .any :: .any :: .any :: .any :: .any :: .any :: .any :: .any :: .any :: .any :: .any :: .any :: .any :: .any :: .any :: .any :: .any :: .any :: .any :: .any :: .any :: .any :: .any :: .any :: .any :: .any :: .any :: .any :: .any :: .any :: .any :: .any :: .any :: .any :: .any :: .any :: .any :: .any :: .any :: .any :: .any :: .any :: .any :: .any :: .any :: .any :: .any :: .any :: .any :: .any :: .any :: .any :: .any :: .any :: []))
      (H0 ++ [.cells 26 [.pv (.sc (.string nm)), .rs 5 (vs.map encV), .rs 13 (o0.map encS), .rs 13 (o1.map encS), .rs 13 (o2.map encS), .rs 13 (L.map encS), .rs 13 (o4.map encS), .i wn, .i pc], .cells 30 [.i 3, .i i0, .i i1, .i i2, .i i3], .cells 26 [.pv (.sc (.string nm)), .rs 5 (vs.map encV), .rs 13 (o0.map encS), .rs 13 (o1.map encS), .rs 13 (o2.map encS), .rs 13 (L.map encS), .rs 13 (o4.map encS), .i wn, .i pc], .cells 26 [.pv (.sc (.string nm)), .rs 5 (vs.map encV), .rs 13 (o0.map encS), .rs 13 (o1.map encS), .rs 13 (o2.map encS), .rs 13 (L.map encS), .rs 13 (o4.map encS), .i wn, .i pc]]) (fun tm H wk h => by simp only [AEx.thn] at h ⊢; exact awp_wk wk h) ?_ (fun Kp W hW => ?_)
    · simp only [AEx.thn]
      by_cases hl0 : L.length = 0
      · have hLe : L = [] := List.eq_nil_of_length_eq_zero hl0
        have hl0' : ((L.length : Int) == 0) = true := by simp; exact hLe
        (have rr1 := dr6_6_X31d; have rr2 := dr6_13_X31d; have rr3 := dr6_14_X31d; have rr4 := dr6_20_X31d; have ww1 := hl0'; have cc1 := fun z1 => c1 z1; have cc2 := fun z1 => c2 z1; have cc3 := fun z1 => cI z1; have cc4 := fun z1 => cT z1; refine wkS ?_; clear rr1 rr2 rr3 rr4 ww1 cc1 cc2 cc3 cc4; (repeat' first | exact True.intro | refine Lf.mk ?_ ?_); all_goals intro hP)
        all_goals ((refine resX ?_; try exact True.intro))
      · obtain ⟨s, ss, hLe⟩ : ∃ s ss, L = s :: ss := by match L, hl0 with | s :: ss, _ => exact ⟨s, ss, rfl⟩
        have hl0' : ((L.length : Int) == 0) = false := by simp; intro h; exact hl0 (by rw [h]; rfl)
        have g0 : (L.map encS)[0]? = some (cS s) := by rw [hLe]; exact congrArg some (encS_eq s)
        have lt0 : (0 : Int) < (L.length : Int) := by omega
        by_cases h2 : s.kind = 2
        · have h2' : (s.kind != 2) = false := by simpa using h2
          obtain ⟨hr1, hr2, na, nb, hokT, hokE, _, _⟩ := choice_head (hLe ▸ hL) h2
          have hrun := choice_err (vs := vs) (st := st) (x := ⟨3, i0, i1, i2, i3⟩) (ss := ss) h2
          rw [← hLe, ← hM] at hrun
          have cA := fun H => cEv s.a H
          have cB := fun H => cEv s.b H
          rw [eval_is (us := us) na] at cA
          rw [eval_is (us := us) nb] at cB
          have cH := fun a b H => RHolds_run a s.rel b ⟨hr1, hr2⟩ H
          simp only at hrun
          clear cEv hM
          cases hva : valE st i0 i1 i2 i3 s.a with
          | error z =>
            rw [hva] at hrun cA
            simp only at hrun
            rw [hrun] at c1 c2 cI
            have hz0 := valE_err s.a z hva
            have hz : (z != 0) = true := by simp; omega
            have hz' : (z == 0) = false := by simp; omega
            simp only [runL, runE, vN, eN] at c1 c2 cI cA
            generalize vN (valE st i0 i1 i2 i3 s.b) = B1 at *
            generalize eN (valE st i0 i1 i2 i3 s.b) = B2 at *
            clear c3 e3 hrun
            (have rr1 := dr6_6_X31d; have rr2 := dr6_13_X31d; have rr3 := dr6_14_X31d; have rr4 := dr6_20_X31d; have ww1 := hl0'; have ww2 := g0; have ww3 := lt0; have ww4 := h2'; have ww5 := hz; have ww6 := hz'; have cc1 := fun z1 => c1 z1; have cc2 := fun z1 => c2 z1; have cc3 := fun z1 => cI z1; have cc4 := fun z1 => cT z1; have cc5 := fun z1 => cA z1; have cc6 := fun z1 => cB z1; refine wkS ?_; clear rr1 rr2 rr3 rr4 ww1 ww2 ww3 ww4 ww5 ww6 cc1 cc2 cc3 cc4 cc5 cc6; (repeat' first | exact True.intro | refine Lf.mk ?_ ?_); all_goals intro hP)
            all_goals ((refine resX ?_; try exact True.intro))
          | ok a =>
            rw [hva] at hrun cA
            simp only at hrun
            cases hvb : valE st i0 i1 i2 i3 s.b with
            | error z =>
              rw [hvb] at hrun cB
              simp only at hrun
              rw [hrun] at c1 c2 cI
              have hz0 := valE_err s.b z hvb
              have hz : (z != 0) = true := by simp; omega
              have hz' : (z == 0) = false := by simp; omega
              simp only [runL, runE, vN, eN] at c1 c2 cI cA cB
              clear c3 e3 hrun
              (have rr1 := dr6_6_X31d; have rr2 := dr6_13_X31d; have rr3 := dr6_14_X31d; have rr4 := dr6_20_X31d; have ww1 := hl0'; have ww2 := g0; have ww3 := lt0; have ww4 := h2'; have ww5 := hz; have ww6 := hz'; have cc1 := fun z1 => c1 z1; have cc2 := fun z1 => c2 z1; have cc3 := fun z1 => cI z1; have cc4 := fun z1 => cT z1; have cc5 := fun z1 => cA z1; have cc6 := fun z1 => cB z1; refine wkS ?_; clear rr1 rr2 rr3 rr4 ww1 ww2 ww3 ww4 ww5 ww6 cc1 cc2 cc3 cc4 cc5 cc6; (repeat' first | exact True.intro | refine Lf.mk ?_ ?_); all_goals intro hP)
              all_goals ((refine resX ?_; try exact True.intro))
            | ok b =>
              rw [hvb] at hrun cB
              simp only at hrun
              simp only [vN, eN] at cA cB
              replace cH := cH a b
              have hww := choice_w s ss
              rw [← hLe] at hww
              obtain ⟨part, hpart, hokP, hwP⟩ : ∃ part, (if holdsS a s.rel b = true then s.thn else s.els) = part ∧ HOk us (part ++ ss) ∧ wSL (part ++ ss) ≤ wSL L := by
                refine ⟨_, rfl, ?_, ?_⟩ <;> split <;> first | assumption | exact hww.1 | exact hww.2
              have c4 := fun H => c3 (part ++ ss) hokP hwP H
              have e4 : runP vs (part ++ ss) st ⟨3, i0, i1, i2, i3⟩ = runM ⟨nm, vs, o0, o1, o2, L, o4, wn, pc⟩ st ⟨3, i0, i1, i2, i3⟩ := by
                rw [hrun, ← hpart]; split <;> rfl
              rw [e3 (part ++ ss) hokP, e4] at c4
              have hpl2 : part.length + ss.length ≤ 1000000 := by
                have := len_totL (part ++ ss)
                have := totL_le (part ++ ss)
                rw [List.length_append] at *
                omega
              have f1 : part.length * 168 ≤ 140737488355328 := by omega
              have f2 : part.length ≤ 9223372036854775807 := by omega
              have f3 : (part.length + ss.length) * 168 ≤ 140737488355328 := by omega
              have f4 : part.length + ss.length ≤ 9223372036854775807 := by omega
              have p1 : (part.map encS).map (fun r => r.map AV.pv) = sR8 part := rfl
              have p2 := sR8_app part ss
              have l1 := sR8_len part
              have hza := Nat.zero_add
              have hna : ∀ l : List (List AV), [] ++ l = l := List.nil_append
              have q2 : List.take (L.length - 1) (List.drop 1 (L.map encS)) = ss.map encS := by rw [hLe]; simp only [List.length_cons, Nat.add_sub_cancel, List.map_cons, List.drop_succ_cons, List.drop_zero]; exact List.take_of_length_le (by simp)
              have lt1 : (1 : Int) ≤ (L.length : Int) := by omega
              have cF := fun (y1 y2 y3 y4 : AObj) => ARun.frz (P := Tryz.prog) (f := 16) (t := 50) (sz := 13) (rows := (part ++ ss).map encS) (H0.length + 4) (H := H0 ++ [y1, y2, y3, y4, .arr 50 13 (sR8 (part ++ ss))])
                (args := [.agg [.pv (.sc (.string nm)), .rs 5 (vs.map encV), .rs 13 (o0.map encS), .rs 13 (o1.map encS), .rs 13 (o2.map encS), .os (H0.length + 4) 0 (part.length + ss.length) (part.length + ss.length), .rs 13 (o4.map encS), .i wn, .i pc], .rs 1 (rI st), .agg [.i 3, .i i0, .i i1, .i i2, .i i3]]) (getOk _ _ _) (c4 _)
                (by simp only [List.map_cons, List.map_nil, AV.frz, List.length_map, List.length_append, and_self, if_true]; (repeat' (first | exact trivial | exact Cv.refl _ | exact Cv.nil (Nat.succ_pos _) | exact PCv.refl _ | exact PCv.nil (Nat.succ_pos _) | refine And.intro ?_ ?_ | refine Cv.agg ?_ | refine Cv.tup ?_ | refine Cv.pv (PCv.rs ?_) | refine PCv.rs ?_)))
              simp only [setOk, List.set_cons_succ, List.set_cons_zero] at cF
              clear c3 e3 c4 e4 hrun hww hokT hokE hokP
              cases hh1 : holdsS a s.rel b with
              | true =>
                rw [hh1] at cH hpart
                simp only [if_true] at hpart
                rw [← hpart] at p1 p2 l1 f1 f2 f3 f4 cF
                clear hpart
                (have rr1 := dr6_6_X31d; have rr2 := dr6_13_X31d; have rr3 := dr6_14_X31d; have rr4 := dr6_20_X31d; have ww1 := hl0'; have ww2 := g0; have ww3 := lt0; have ww4 := h2'; have ww5 := f1; have ww6 := f2; have ww7 := f3; have ww8 := f4; have ww9 := p1; have ww10 := p2; have ww11 := l1; have ww12 := q2; have ww13 := lt1; have ww14 := hna; have ww15 := hza; have cc1 := fun z1 => c1 z1; have cc2 := fun z1 => c2 z1; have cc3 := fun z1 => cI z1; have cc4 := fun z1 => cT z1; have cc5 := fun z1 => cA z1; have cc6 := fun z1 => cB z1; have cc7 := fun z1 => cH z1; have cc8 := fun z1 z2 z3 z4 => cF z1 z2 z3 z4; refine wkS ?_; clear rr1 rr2 rr3 rr4 ww1 ww2 ww3 ww4 ww5 ww6 ww7 ww8 ww9 ww10 ww11 ww12 ww13 ww14 ww15 cc1 cc2 cc3 cc4 cc5 cc6 cc7 cc8; (repeat' first | exact True.intro | refine Lf.mk ?_ ?_); all_goals intro hP)
                all_goals ((refine resX ?_; try exact True.intro))
              | false =>
                rw [hh1] at cH hpart
                simp only [Bool.false_eq_true, if_false] at hpart
                rw [← hpart] at p1 p2 l1 f1 f2 f3 f4 cF
                clear hpart
                (have rr1 := dr6_6_X31d; have rr2 := dr6_13_X31d; have rr3 := dr6_14_X31d; have rr4 := dr6_20_X31d; have ww1 := hl0'; have ww2 := g0; have ww3 := lt0; have ww4 := h2'; have ww5 := f1; have ww6 := f2; have ww7 := f3; have ww8 := f4; have ww9 := p1; have ww10 := p2; have ww11 := l1; have ww12 := q2; have ww13 := lt1; have ww14 := hna; have ww15 := hza; have cc1 := fun z1 => c1 z1; have cc2 := fun z1 => c2 z1; have cc3 := fun z1 => cI z1; have cc4 := fun z1 => cT z1; have cc5 := fun z1 => cA z1; have cc6 := fun z1 => cB z1; have cc7 := fun z1 => cH z1; have cc8 := fun z1 z2 z3 z4 => cF z1 z2 z3 z4; refine wkS ?_; clear rr1 rr2 rr3 rr4 ww1 ww2 ww3 ww4 ww5 ww6 ww7 ww8 ww9 ww10 ww11 ww12 ww13 ww14 ww15 cc1 cc2 cc3 cc4 cc5 cc6 cc7 cc8; (repeat' first | exact True.intro | refine Lf.mk ?_ ?_); all_goals intro hP)
                all_goals ((refine resX ?_; try exact True.intro))
        · have h2' : (s.kind != 2) = true := by simpa using h2
          clear c3 e3 cEv
          (have rr1 := dr6_6_X31d; have rr2 := dr6_13_X31d; have rr3 := dr6_14_X31d; have rr4 := dr6_20_X31d; have ww1 := hl0'; have ww2 := g0; have ww3 := lt0; have ww4 := h2'; have cc1 := fun z1 => c1 z1; have cc2 := fun z1 => c2 z1; have cc3 := fun z1 => cI z1; have cc4 := fun z1 => cT z1; refine wkS ?_; clear rr1 rr2 rr3 rr4 ww1 ww2 ww3 ww4 cc1 cc2 cc3 cc4; (repeat' first | exact True.intro | refine Lf.mk ?_ ?_); all_goals intro hP)
          all_goals ((refine resX ?_; try exact True.intro))
    · simp only [List.forall_mem_cons, List.not_mem_nil, false_implies, implies_true, and_true, go_sem, Nat.reduceAdd, Nat.reduceSub, Nat.reduceMul, Nat.reduceLeDiff, Nat.reduceLT, Nat.reduceEqDiff, Int.reduceToNat, Int.reduceAdd, Int.reduceMul, Int.reduceSub, Int.reduceLT, Int.reduceLE, Int.reduceEq, Int.reduceNeg, Int.reduceBEq, Int.reduceBNe, ↓reduceIte, reduceCtorEq, pick, List.length_map]
      (have rr1 := dr6_6_X31d; have rr2 := dr6_13_X31d; have rr3 := dr6_14_X31d; have rr4 := dr6_20_X31d; refine wkS ?_; clear rr1 rr2 rr3 rr4; (repeat' first | exact True.intro | refine Lf.mk ?_ ?_); all_goals intro hP)
      all_goals (first | ((refine hW _ _ (Wk.perm0 [0, 1, 2, 3] (by decide) ?_ ?_)) <;> (simp only [PermL, FgtR, AObj.ren, AV.ren, AV.under, AObj.under, AL.perm_0, AL.perm_k, List.map_cons, List.map_nil, List.map_map, List.map_replicate, List.replicate_succ, List.getD_cons_zero, List.getD_cons_succ, List.getElem?_cons_zero, List.getElem?_cons_succ, List.length_cons, List.length_nil, Nat.add_zero, Nat.zero_add, Nat.reduceAdd, Nat.add_lt_add_iff_left, Nat.reduceLT, Nat.lt_add_right_iff_pos, List.forall_mem_cons, List.mem_cons, List.not_mem_nil, forall_eq_or_imp, forall_eq, false_implies, implies_true, reduceCtorEq, false_or, true_or, or_true, and_true, true_and, and_self, List.forall_mem_map, List.mem_map, forall_exists_index, and_imp, forall_apply_eq_imp_iff₂, Function.comp_def]) <;> (first | (intro a _ ha c hc; subst ha; simp only [List.mem_singleton] at hc; subst hc; simp only [AV.under]))) | ((refine hW _ _ (Wk.perm0 [0, 1, 3, 2] (by decide) ?_ ?_)) <;> (simp only [PermL, FgtR, AObj.ren, AV.ren, AV.under, AObj.under, AL.perm_0, AL.perm_k, List.map_cons, List.map_nil, List.map_map, List.map_replicate, List.replicate_succ, List.getD_cons_zero, List.getD_cons_succ, List.getElem?_cons_zero, List.getElem?_cons_succ, List.length_cons, List.length_nil, Nat.add_zero, Nat.zero_add, Nat.reduceAdd, Nat.add_lt_add_iff_left, Nat.reduceLT, Nat.lt_add_right_iff_pos, List.forall_mem_cons, List.mem_cons, List.not_mem_nil, forall_eq_or_imp, forall_eq, false_implies, implies_true, reduceCtorEq, false_or, true_or, or_true, and_true, true_and, and_self, List.forall_mem_map, List.mem_map, forall_exists_index, and_imp, forall_apply_eq_imp_iff₂, Function.comp_def]) <;> (first | (intro a _ ha c hc; subst ha; simp only [List.mem_singleton] at hc; subst hc; simp only [AV.under]))))
theorem dr6_6_X31e : Drawn Tryz.prog 6 (regOps 6 ((Tryz.f6.body).getD .skip)) [3, 6] [] [.win [0, 1], .win [0, 1], .win [0], .eff 0, .win [0, 1], .win [1], .eff 1] 2 [] := ⟨rfl, by as_aux_lemma => kernel_rfl⟩
theorem dr6_13_X31e : Drawn Tryz.prog 13 (regOps 13 ((Tryz.f6.body).getD .skip)) [7] [] [.win [0], .win [0], .win [0], .win [0], .win [0], .win [0], .win [0], .eff 0, .win [1], .win [1], .win [1], .win [1], .win [1]] 1 [] := ⟨rfl, by as_aux_lemma => kernel_rfl⟩
theorem dr6_14_X31e : Drawn Tryz.prog 14 (regOps 14 ((Tryz.f6.body).getD .skip)) [7] [] [.win [0], .win [0], .win [0], .win [0], .win [0], .win [0], .win [0], .eff 0, .win [1], .win [1], .win [1], .win [1], .win [1]] 1 [] := ⟨rfl, by as_aux_lemma => kernel_rfl⟩
theorem dr6_20_X31e : Drawn Tryz.prog 20 (regOps 20 ((Tryz.f6.body).getD .skip)) [2, 4, 7, 10] [] [.win [0, 1, 2, 3], .win [0, 1, 2, 3], .eff 0, .win [0, 1], .eff 1, .win [0, 1, 2], .win [0, 1, 2], .eff 2, .win [0, 1, 2, 3], .win [3], .eff 3] 4 [] := ⟨rfl, by as_aux_lemma => kernel_rfl⟩
theorem MeaningChoice_4 (p : Prg) (st : List Int) (x : Cal) (hp : PF p) (huse : useB p st x = true) (hxe : x.ev = 4) (H0 : List AObj) :
    ARun Tryz.prog 6 [.ag (cP p), .rs 1 (rI st), agL x] H0 (.ret (.b true) H0) := by
  have hh := fun H => head8_run H
  have hu := fun H => usable8_run p hp st x H
  rw [huse] at hu
  obtain ⟨hfew, hv, hs, hc⟩ := useB_all huse
  have pm := hp.pm hfew
  obtain ⟨us, V⟩ := validB_val hv
  have hL := val_hok V x.ev.toNat
  have hev5 := call_ev hc
  have hsl := stIn_len hs
  have hfa := few5_all hfew
  have hpl : p.vars.length ≤ 20 := by omega
  have c1 := fun H => pm.mrun st x H
  have htw : wSL (turnL (handP p x.ev.toNat)) ≤ wSL (handP p x.ev.toNat) := by rw [(turnL_sm _).2.2]; exact Nat.le_refl _
  have c2 := fun H => (pm.put (k := x.ev.toNat) (by omega) htw).mrun st x H
  have e2 : runM (putP p x.ev.toNat (turnL (handP p x.ev.toNat))) st x = runM p st x := by
    rw [runM_put hc hs hv V hL.turn, runM_is hc hs hv]
    exact turnL_run _ hL.1 st
  rw [e2] at c2
  have l2 := runM_len p st x
  have cI := fun H => Ints_run (runL (runM p st x)) (runL (runM p st x)) (by omega) H
  rw [beq_self_eq_true] at cI
  have hT : totL (handP p x.ev.toNat) ≤ 1000000 := by
    have h9 := pm.w
    have h8 := totL_le (handP p x.ev.toNat)
    have : wSL (handP p x.ev.toNat) ≤ 900000 := by unfold handP; (repeat' split) <;> omega
    omega
  have hT2 := len_totL (handP p x.ev.toNat)
  have cT := fun H => turned8_run _ (handP p x.ev.toNat) (Nat.le_refl _) hT H
  have hM := runM_is hc hs hv
  have c3 := fun l (hl : HOk us l) (hw : wSL l ≤ wSL (handP p x.ev.toNat)) H => (pm.put (k := x.ev.toNat) (by omega) hw).mrun st x H
  have e3 := fun l (hl : HOk us l) => runM_put (st := st) hc hs hv V hl
  have cEv := fun (e : Ex) H => MEval_run st (by omega) x.i0 x.i1 x.i2 x.i3 e H
  have hTw : wSL (handP p x.ev.toNat) ≤ 900000 := by
    have h9 := pm.w
    unfold handP; (repeat' split) <;> omega
  clear huse hfew hfa e2 htw
  obtain ⟨ev, i0, i1, i2, i3⟩ := x
  simp only at hev5
  subst hxe
  · obtain ⟨nm, vs, o0, o1, o2, o3, L, wn, pc⟩ := p
    simp only [Int.reduceToNat, Int.toNat_zero, Int.toNat_one, handP, if_true, if_false, Nat.reduceEqDiff, reduceIte, putP, onP, one_ne_zero', zero_ne_one'] at *
    (refine ARun.intro Tryz.func6 rfl Tryz.call6 Tryz.ntmps6 Tryz.results6 ?_; simp only [List.length_cons, List.length_nil, List.length_map, Nat.reduceAdd, Nat.reduceSub, List.replicate_succ, List.replicate_zero, List.cons_append, List.nil_append])
    (have rr1 := dr6_6_X31e; have rr2 := dr6_13_X31e; have rr3 := dr6_14_X31e; have rr4 := dr6_20_X31e; have cc1 := fun z1 => hh z1; have cc2 := fun z1 => hu z1; refine wkS ?_; clear rr1 rr2 rr3 rr4 cc1 cc2; (repeat' first | exact True.intro | refine Lf.mk ?_ ?_); all_goals intro hP)
    refine awp_drawnO_c (id := 5) [2, 3, 4, 5] [([2, 3, 4, 5], [0, 1, 2, 3, 4, 5], [.win [0, 1, 2], .win [0, 1, 2, 3], .eff 0, .eff 1, .eff 2, .eff 3]), ([3, 2, 4, 5], [0, 1, 3, 2, 4, 5], [.win [0, 1, 2], .win [0, 1, 2, 3], .eff 1, .eff 0, .eff 2, .eff 3])] 4 rfl (by as_aux_lemma => kernel_rfl) ((.any :: .rs 1 (rI st) :: .any :: .p H0.length 0 :: .any :: .p (H0.length + 1) 0 :: .any :: .b true :: .rs 13 (L.map encS) :: .p (H0.length + 2) 0 :: .p (H0.length + 3) 0 :: .any :: .any :: .any :: .any :: .any :: .any :: .any :: .any :: .any :: .any :: .any :: .any :: .any :: .any :: .any :: .any :: .any :: .any :: .any :: .any :: .any :: .any :: .any :: .any :: .any :: .any :: .any :: .any :: .any :: .any :: .any :: .any :: .any :: .any :: .any :: .any :: .any :: .any :: .any :: .any :: .any :: .any :: .any :: .any :: .any :: .any :: .any :: .any :: .any :: .any :: .any :: .any :: .any :: .any :: .any :: .any :: .any :: .any :: .any :: .any :: .any :: .any :: .any :: .any :: .any :: .any :: .any :: .any :: .any :: .any :: .any :: .any :: .any :: .any :: .any :: .any :: .any :: .any :: .any :: .any :: .any :: .any :: .any :: .any :: .any :: .any :: .any :: .any :: .any :: .any :: .any :: .any :: .any :: .any :: .any :: .any :: .any :: .any :: .any :: .any :: .any :: .any :: .any :: .any :: .any :: .any :: .any :: .any :: .any :: .any :: .any :: .any :: .any :: .any :: .any :: .any :: .any :: .any :: .any :: .any :: .any :: .any :: .any :: .any :: .any :: .any :: .any :: .any :: .any :: .any :: .any :: .any :: .any :: .any :: .any :: .any :: .any :: .any :: .any :: .any :: .any :: .any :: .any :: .any :: .any :: .any :: .any :: .any :: .any :: .any :: .any :: .any :: .any :: .any :: .any :: []))
      (H0 ++ [.cells 26 [.pv (.sc (.string nm)), .rs 5 (vs.map encV), .rs 13 (o0.map encS), .rs 13 (o1.map encS), .rs 13 (o2.map encS), .rs 13 (o3.map encS), .rs 13 (L.map encS), .i wn, .i pc], .cells 30 [.i 4, .i i0, .i i1, .i i2, .i i3], .cells 26 [.pv (.sc (.string nm)), .rs 5 (vs.map encV), .rs 13 (o0.map encS), .rs 13 (o1.map encS), .rs 13 (o2.map encS), .rs 13 (o3.map encS), .rs 13 (L.map encS), .i wn, .i pc], .cells 26 [.pv (.sc (.string nm)), .rs 5 (vs.map encV), .rs 13 (o0.map encS), .rs 13 (o1.map encS), .rs 13 (o2.map encS), .rs 13 (o3.map encS), .rs 13 (L.map encS), .i wn, .i pc]]) (fun tm H wk h => by simp only [AEx.thn] at h ⊢; exact awp_wk wk h) ?_ (fun Kp W hW => ?_)
    · simp only [AEx.thn]
      by_cases hl0 : L.length = 0
      · have hLe : L = [] := List.eq_nil_of_length_eq_zero hl0
        have hl0' : ((L.length : Int) == 0) = true := by simp; exact hLe
        (have rr1 := dr6_6_X31e; have rr2 := dr6_13_X31e; have rr3 := dr6_14_X31e; have rr4 := dr6_20_X31e; have ww1 := hl0'; have cc1 := fun z1 => c1 z1; have cc2 := fun z1 => c2 z1; have cc3 := fun z1 => cI z1; have cc4 := fun z1 => cT z1; refine wkS ?_; clear rr1 rr2 rr3 rr4 ww1 cc1 cc2 cc3 cc4; (repeat' first | exact True.intro | refine Lf.mk ?_ ?_); all_goals intro hP)
        all_goals ((refine resX ?_; try exact True.intro))
      · obtain ⟨s, ss, hLe⟩ : ∃ s ss, L = s :: ss := by match L, hl0 with | s :: ss, _ => exact ⟨s, ss, rfl⟩
        have hl0' : ((L.length : Int) == 0) = false := by simp; intro h; exact hl0 (by rw [h]; rfl)
        have g0 : (L.map encS)[0]? = some (cS s) := by rw [hLe]; exact congrArg some (encS_eq s)
        have lt0 : (0 : Int) < (L.length : Int) := by omega
        by_cases h2 : s.kind = 2
        · have h2' : (s.kind != 2) = false := by simpa using h2
          obtain ⟨hr1, hr2, na, nb, hokT, hokE, _, _⟩ := choice_head (hLe ▸ hL) h2
          have hrun := choice_err (vs := vs) (st := st) (x := ⟨4, i0, i1, i2, i3⟩) (ss := ss) h2
          rw [← hLe, ← hM] at hrun
          have cA := fun H => cEv s.a H
          have cB := fun H => cEv s.b H
          rw [eval_is (us := us) na] at cA
          rw [eval_is (us := us) nb] at cB
          have cH := fun a b H => RHolds_run a s.rel b ⟨hr1, hr2⟩ H
          simp only at hrun
          clear cEv hM
          cases hva : valE st i0 i1 i2 i3 s.a with
          | error z =>
            rw [hva] at hrun cA
            simp only at hrun
            rw [hrun] at c1 c2 cI
            have hz0 := valE_err s.a z hva
            have hz : (z != 0) = true := by simp; omega
            have hz' : (z == 0) = false := by simp; omega
            simp only [runL, runE, vN, eN] at c1 c2 cI cA
            generalize vN (valE st i0 i1 i2 i3 s.b) = B1 at *
            generalize eN (valE st i0 i1 i2 i3 s.b) = B2 at *
            clear c3 e3 hrun
            (have rr1 := dr6_6_X31e; have rr2 := dr6_13_X31e; have rr3 := dr6_14_X31e; have rr4 := dr6_20_X31e; have ww1 := hl0'; have ww2 := g0; have ww3 := lt0; have ww4 := h2'; have ww5 := hz; have ww6 := hz'; have cc1 := fun z1 => c1 z1; have cc2 := fun z1 => c2 z1; have cc3 := fun z1 => cI z1; have cc4 := fun z1 => cT z1; have cc5 := fun z1 => cA z1; have cc6 := fun z1 => cB z1; refine wkS ?_; clear rr1 rr2 rr3 rr4 ww1 ww2 ww3 ww4 ww5 ww6 cc1 cc2 cc3 cc4 cc5 cc6; (repeat' first | exact True.intro | refine Lf.mk ?_ ?_); all_goals intro hP)
            all_goals ((refine resX ?_; try exact True.intro))
          | ok a =>
            rw [hva] at hrun cA
            simp only at hrun
            cases hvb : valE st i0 i1 i2 i3 s.b with
            | error z =>
              rw [hvb] at hrun cB
              simp only at hrun
              rw [hrun] at c1 c2 cI
              have hz0 := valE_err s.b z hvb
              have hz : (z != 0) = true := by simp; omega
              have hz' : (z == 0) = false := by simp; omega
              simp only [runL, runE, vN, eN] at c1 c2 cI cA cB
              clear c3 e3 hrun
              (have rr1 := dr6_6_X31e; have rr2 := dr6_13_X31e; have rr3 := dr6_14_X31e; have rr4 := dr6_20_X31e; have ww1 := hl0'; have ww2 := g0; have ww3 := lt0; have ww4 := h2'; have ww5 := hz; have ww6 := hz'; have cc1 := fun z1 => c1 z1; have cc2 := fun z1 => c2 z1; have cc3 := fun z1 => cI z1; have cc4 := fun z1 => cT z1; have cc5 := fun z1 => cA z1; have cc6 := fun z1 => cB z1; refine wkS ?_; clear rr1 rr2 rr3 rr4 ww1 ww2 ww3 ww4 ww5 ww6 cc1 cc2 cc3 cc4 cc5 cc6; (repeat' first | exact True.intro | refine Lf.mk ?_ ?_); all_goals intro hP)
              all_goals ((refine resX ?_; try exact True.intro))
            | ok b =>
              rw [hvb] at hrun cB
              simp only at hrun
              simp only [vN, eN] at cA cB
              replace cH := cH a b
              have hww := choice_w s ss
              rw [← hLe] at hww
              obtain ⟨part, hpart, hokP, hwP⟩ : ∃ part, (if holdsS a s.rel b = true then s.thn else s.els) = part ∧ HOk us (part ++ ss) ∧ wSL (part ++ ss) ≤ wSL L := by
                refine ⟨_, rfl, ?_, ?_⟩ <;> split <;> first | assumption | exact hww.1 | exact hww.2
              have c4 := fun H => c3 (part ++ ss) hokP hwP H
              have e4 : runP vs (part ++ ss) st ⟨4, i0, i1, i2, i3⟩ = runM ⟨nm, vs, o0, o1, o2, o3, L, wn, pc⟩ st ⟨4, i0, i1, i2, i3⟩ := by
                rw [hrun, ← hpart]; split <;> rfl
              rw [e3 (part ++ ss) hokP, e4] at c4
              have hpl2 : part.length + ss.length ≤ 1000000 := by
                have := len_totL (part ++ ss)
                have := totL_le (part ++ ss)
                rw [List.length_append] at *
                omega
              have f1 : part.length * 168 ≤ 140737488355328 := by omega
              have f2 : part.length ≤ 9223372036854775807 := by omega
              have f3 : (part.length + ss.length) * 168 ≤ 140737488355328 := by omega
              have f4 : part.length + ss.length ≤ 9223372036854775807 := by omega
              have p1 : (part.map encS).map (fun r => r.map AV.pv) = sR8 part := rfl
              have p2 := sR8_app part ss
              have l1 := sR8_len part
              have hza := Nat.zero_add
              have hna : ∀ l : List (List AV), [] ++ l = l := List.nil_append
              have q2 : List.take (L.length - 1) (List.drop 1 (L.map encS)) = ss.map encS := by rw [hLe]; simp only [List.length_cons, Nat.add_sub_cancel, List.map_cons, List.drop_succ_cons, List.drop_zero]; exact List.take_of_length_le (by simp)
              have lt1 : (1 : Int) ≤ (L.length : Int) := by omega
              have cF := fun (y1 y2 y3 y4 : AObj) => ARun.frz (P := Tryz.prog) (f := 16) (t := 50) (sz := 13) (rows := (part ++ ss).map encS) (H0.length + 4) (H := H0 ++ [y1, y2, y3, y4, .arr 50 13 (sR8 (part ++ ss))])
                (args := [.agg [.pv (.sc (.string nm)), .rs 5 (vs.map encV), .rs 13 (o0.map encS), .rs 13 (o1.map encS), .rs 13 (o2.map encS), .rs 13 (o3.map encS), .os (H0.length + 4) 0 (part.length + ss.length) (part.length + ss.length), .i wn, .i pc], .rs 1 (rI st), .agg [.i 4, .i i0, .i i1, .i i2, .i i3]]) (getOk _ _ _) (c4 _)
                (by simp only [List.map_cons, List.map_nil, AV.frz, List.length_map, List.length_append, and_self, if_true]; (repeat' (first | exact trivial | exact Cv.refl _ | exact Cv.nil (Nat.succ_pos _) | exact PCv.refl _ | exact PCv.nil (Nat.succ_pos _) | refine And.intro ?_ ?_ | refine Cv.agg ?_ | refine Cv.tup ?_ | refine Cv.pv (PCv.rs ?_) | refine PCv.rs ?_)))
              simp only [setOk, List.set_cons_succ, List.set_cons_zero] at cF
              clear c3 e3 c4 e4 hrun hww hokT hokE hokP
              cases hh1 : holdsS a s.rel b with
              | true =>
                rw [hh1] at cH hpart
                simp only [if_true] at hpart
                rw [← hpart] at p1 p2 l1 f1 f2 f3 f4 cF
                clear hpart
                (have rr1 := dr6_6_X31e; have rr2 := dr6_13_X31e; have rr3 := dr6_14_X31e; have rr4 := dr6_20_X31e; have ww1 := hl0'; have ww2 := g0; have ww3 := lt0; have ww4 := h2'; have ww5 := f1; have ww6 := f2; have ww7 := f3; have ww8 := f4; have ww9 := p1; have ww10 := p2; have ww11 := l1; have ww12 := q2; have ww13 := lt1; have ww14 := hna; have ww15 := hza; have cc1 := fun z1 => c1 z1; have cc2 := fun z1 => c2 z1; have cc3 := fun z1 => cI z1; have cc4 := fun z1 => cT z1; have cc5 := fun z1 => cA z1; have cc6 := fun z1 => cB z1; have cc7 := fun z1 => cH z1; have cc8 := fun z1 z2 z3 z4 => cF z1 z2 z3 z4; refine wkS ?_; clear rr1 rr2 rr3 rr4 ww1 ww2 ww3 ww4 ww5 ww6 ww7 ww8 ww9 ww10 ww11 ww12 ww13 ww14 ww15 cc1 cc2 cc3 cc4 cc5 cc6 cc7 cc8; (repeat' first | exact True.intro | refine Lf.mk ?_ ?_); all_goals intro hP)
                all_goals ((refine resX ?_; try exact True.intro))
              | false =>
                rw [hh1] at cH hpart
                simp only [Bool.false_eq_true, if_false] at hpart
                rw [← hpart] at p1 p2 l1 f1 f2 f3 f4 cF
                clear hpart
                (have rr1 := dr6_6_X31e; have rr2 := dr6_13_X31e; have rr3 := dr6_14_X31e; have rr4 := dr6_20_X31e; have ww1 := hl0'; have ww2 := g0; have ww3 := lt0; have ww4 := h2'; have ww5 := f1; have ww6 := f2; have ww7 := f3; have ww8 := f4; have ww9 := p1; have ww10 := p2; have ww11 := l1; have ww12 := q2; have ww13 := lt1; have ww14 := hna; have ww15 := hza; have cc1 := fun z1 => c1 z1; have cc2 := fun z1 => c2 z1; have cc3 := fun z1 => cI z1; have cc4 := fun z1 => cT z1; have cc5 := fun z1 => cA z1; have cc6 := fun z1 => cB z1; have cc7 := fun z1 => cH z1; have cc8 := fun z1 z2 z3 z4 => cF z1 z2 z3 z4; refine wkS ?_; clear rr1 rr2 rr3 rr4 ww1 ww2 ww3 ww4 ww5 ww6 ww7 ww8 ww9 ww10 ww11 ww12 ww13 ww14 ww15 cc1 cc2 cc3 cc4 cc5 cc6 cc7 cc8; (repeat' first | exact True.intro | refine Lf.mk ?_ ?_); all_goals intro hP)
                all_goals ((refine resX ?_; try exact True.intro))
        · have h2' : (s.kind != 2) = true := by simpa using h2
          clear c3 e3 cEv
          (have rr1 := dr6_6_X31e; have rr2 := dr6_13_X31e; have rr3 := dr6_14_X31e; have rr4 := dr6_20_X31e; have ww1 := hl0'; have ww2 := g0; have ww3 := lt0; have ww4 := h2'; have cc1 := fun z1 => c1 z1; have cc2 := fun z1 => c2 z1; have cc3 := fun z1 => cI z1; have cc4 := fun z1 => cT z1; refine wkS ?_; clear rr1 rr2 rr3 rr4 ww1 ww2 ww3 ww4 cc1 cc2 cc3 cc4; (repeat' first | exact True.intro | refine Lf.mk ?_ ?_); all_goals intro hP)
          all_goals ((refine resX ?_; try exact True.intro))
    · simp only [List.forall_mem_cons, List.not_mem_nil, false_implies, implies_true, and_true, go_sem, Nat.reduceAdd, Nat.reduceSub, Nat.reduceMul, Nat.reduceLeDiff, Nat.reduceLT, Nat.reduceEqDiff, Int.reduceToNat, Int.reduceAdd, Int.reduceMul, Int.reduceSub, Int.reduceLT, Int.reduceLE, Int.reduceEq, Int.reduceNeg, Int.reduceBEq, Int.reduceBNe, ↓reduceIte, reduceCtorEq, pick, List.length_map]
      (have rr1 := dr6_6_X31e; have rr2 := dr6_13_X31e; have rr3 := dr6_14_X31e; have rr4 := dr6_20_X31e; refine wkS ?_; clear rr1 rr2 rr3 rr4; (repeat' first | exact True.intro | refine Lf.mk ?_ ?_); all_goals intro hP)
      all_goals (first | ((refine hW _ _ (Wk.perm0 [0, 1, 2, 3] (by decide) ?_ ?_)) <;> (simp only [PermL, FgtR, AObj.ren, AV.ren, AV.under, AObj.under, AL.perm_0, AL.perm_k, List.map_cons, List.map_nil, List.map_map, List.map_replicate, List.replicate_succ, List.getD_cons_zero, List.getD_cons_succ, List.getElem?_cons_zero, List.getElem?_cons_succ, List.length_cons, List.length_nil, Nat.add_zero, Nat.zero_add, Nat.reduceAdd, Nat.add_lt_add_iff_left, Nat.reduceLT, Nat.lt_add_right_iff_pos, List.forall_mem_cons, List.mem_cons, List.not_mem_nil, forall_eq_or_imp, forall_eq, false_implies, implies_true, reduceCtorEq, false_or, true_or, or_true, and_true, true_and, and_self, List.forall_mem_map, List.mem_map, forall_exists_index, and_imp, forall_apply_eq_imp_iff₂, Function.comp_def]) <;> (first | (intro a _ ha c hc; subst ha; simp only [List.mem_singleton] at hc; subst hc; simp only [AV.under]))) | ((refine hW _ _ (Wk.perm0 [0, 1, 3, 2] (by decide) ?_ ?_)) <;> (simp only [PermL, FgtR, AObj.ren, AV.ren, AV.under, AObj.under, AL.perm_0, AL.perm_k, List.map_cons, List.map_nil, List.map_map, List.map_replicate, List.replicate_succ, List.getD_cons_zero, List.getD_cons_succ, List.getElem?_cons_zero, List.getElem?_cons_succ, List.length_cons, List.length_nil, Nat.add_zero, Nat.zero_add, Nat.reduceAdd, Nat.add_lt_add_iff_left, Nat.reduceLT, Nat.lt_add_right_iff_pos, List.forall_mem_cons, List.mem_cons, List.not_mem_nil, forall_eq_or_imp, forall_eq, false_implies, implies_true, reduceCtorEq, false_or, true_or, or_true, and_true, true_and, and_self, List.forall_mem_map, List.mem_map, forall_exists_index, and_imp, forall_apply_eq_imp_iff₂, Function.comp_def]) <;> (first | (intro a _ ha c hc; subst ha; simp only [List.mem_singleton] at hc; subst hc; simp only [AV.under]))))
theorem dr6_6_X31f : Drawn Tryz.prog 6 (regOps 6 ((Tryz.f6.body).getD .skip)) [3, 6] [] [.win [0, 1], .win [0, 1], .win [0], .eff 0, .win [0, 1], .win [1], .eff 1] 2 [] := ⟨rfl, by as_aux_lemma => kernel_rfl⟩
theorem dr6_13_X31f : Drawn Tryz.prog 13 (regOps 13 ((Tryz.f6.body).getD .skip)) [7] [] [.win [0], .win [0], .win [0], .win [0], .win [0], .win [0], .win [0], .eff 0, .win [1], .win [1], .win [1], .win [1], .win [1]] 1 [] := ⟨rfl, by as_aux_lemma => kernel_rfl⟩
theorem dr6_14_X31f : Drawn Tryz.prog 14 (regOps 14 ((Tryz.f6.body).getD .skip)) [7] [] [.win [0], .win [0], .win [0], .win [0], .win [0], .win [0], .win [0], .eff 0, .win [1], .win [1], .win [1], .win [1], .win [1]] 1 [] := ⟨rfl, by as_aux_lemma => kernel_rfl⟩
theorem dr6_20_X31f : Drawn Tryz.prog 20 (regOps 20 ((Tryz.f6.body).getD .skip)) [2, 4, 7, 10] [] [.win [0, 1, 2, 3], .win [0, 1, 2, 3], .eff 0, .win [0, 1], .eff 1, .win [0, 1, 2], .win [0, 1, 2], .eff 2, .win [0, 1, 2, 3], .win [3], .eff 3] 4 [] := ⟨rfl, by as_aux_lemma => kernel_rfl⟩
theorem MeaningChoice_run (p : Prg) (st : List Int) (x : Cal) (hp : PF p) (H0 : List AObj) :
    ARun Tryz.prog 6 [.ag (cP p), .rs 1 (rI st), agL x] H0 (.ret (.b true) H0) := by
  cases huse : useB p st x with
  | false =>
    have hh := fun H => head8_run H
    have hu := fun H => usable8_run p hp st x H
    rw [huse] at hu
    (refine ARun.intro Tryz.func6 rfl Tryz.call6 Tryz.ntmps6 Tryz.results6 ?_; simp only [List.length_cons, List.length_nil, List.length_map, Nat.reduceAdd, Nat.reduceSub, List.replicate_succ, List.replicate_zero, List.cons_append, List.nil_append])
    (have rr1 := dr6_6_X31f; have rr2 := dr6_13_X31f; have rr3 := dr6_14_X31f; have rr4 := dr6_20_X31f; have cc1 := fun z1 => hh z1; have cc2 := fun z1 => hu z1; refine wk ?_; clear rr1 rr2 rr3 rr4 cc1 cc2; (repeat' first | exact True.intro | refine Lf.mk ?_ ?_); all_goals intro hP)
    (refine resX ?_; try exact True.intro)
  | true =>
    rcases ev5 (useB_all huse).2.2.2 with h | h | h | h | h
    · exact MeaningChoice_0 p st x hp huse h H0
    · exact MeaningChoice_1 p st x hp huse h H0
    · exact MeaningChoice_2 p st x hp huse h H0
    · exact MeaningChoice_3 p st x hp huse h H0
    · exact MeaningChoice_4 p st x hp huse h H0
end Go.Proofs.YtpfjlifneibhfaaGreat.Y
