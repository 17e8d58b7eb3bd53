/- Part 1 of the proofs of seat Ytkchihkmhojdnaa: what the texts behind it lean on (abstract memory, walks of functions, plain laws). -/
import Derived.Test.YtkchihkmhojdnaaM0
import Derived.Recover
import Derived.Test.YtkchihkmhojdnaaProg
import Derived.KernelRfl

/- A region that draws its order: whatever the order, the same comes out. -/
set_option linter.unusedVariables false
set_option linter.unusedSimpArgs false
namespace Go.Proofs.Ytkchihkmhojdnaa.AL

def opAfter (l : List Oper) (i : Nat) : List Nat := match l[i]? with
  | some o => (o.after.toList.filter (Region.binds .any)).map (·.on)
  | none => []
/-- Which operations come before, at whatever distance. -/
def ancTab (l : List Oper) : List (List Nat) :=
  (List.range l.length).foldl (fun tab i => tab ++ [((opAfter l i).flatMap fun k => k :: tab.getD k []).eraseDups]) []
def opDst (l : List Oper) (i : Nat) : Option Tmp := (l[i]?).bind (·.dst)
def opTmps (l : List Oper) (o : Oper) : List Tmp :=
  (o.op.operands.toList.filterMap fun | .tmp t => some t | _ => none) ++ (match o.guard with
    | some (j, _) => (opDst l j).toList
    | none => [])
def winLo (tab : List (List Nat)) (effs : List Nat) (i : Nat) : Nat := (effs.filter fun e => (tab.getD i []).contains e).length
def winHi (tab : List (List Nat)) (effs : List Nat) (i : Nat) : Nat := (effs.takeWhile fun e => !(tab.getD e []).contains i).length
/-- What the kernel asks of a region. effs: the operations that turn memory, in their order; wins: between which of them each other operation may fall. -/
def drawOk (l : List Oper) (tab : List (List Nat)) (effs : List Nat) (wins : List (Nat × Nat)) : Bool :=
  effs.Nodup && (effs.all (· < l.length)) &&
  (List.range l.length).all fun i =>
    (opAfter l i).all (· < i) &&
    ((tab.getD i []).all fun k => (opAfter l i).any fun e => k == e || (tab.getD e []).contains k) &&
    (match l[i]? with
     | some o => notSelect o.op && (opTmps l o).all fun t => (List.range l.length).all fun j => opDst l j != some t || (tab.getD i []).contains j
     | none => false) &&
    ((List.range l.length).all fun j => j == i || (opDst l j).isNone || opDst l j != opDst l i) &&
    (!(effs.contains i) || (effs.take (effs.idxOf i)).all fun e => (tab.getD i []).contains e) &&
    wins.getD i (0, 0) == (winLo tab effs i, winHi tab effs i)

/-- An operation comes to what is foretold: v to its slot, memory H'. -/
def OpGood (P : Program) (l : List Oper) (T : List AV) (H : List AObj) (o : Oper) (H' : List AObj) : Prop :=
  match aWanted l T o with
  | some false => (∀ d, o.dst = some d → T[d]? = some (.tup [])) ∧ H' = H
  | some true => match aStep P T H o with
    | .next v H1 => (∀ d, o.dst = some d → T[d]? = some v) ∧ H' = H1
    | .run => aConcs T o = true ∧ ∃ r : Value, (∀ w, (execOp (aRho T) o).run P w = .ok (.value r) w) ∧ (∀ d, o.dst = some d → T[d]? = some (.ofV r)) ∧ H' = H
    | .enter f args => ∃ v, ARun P f args H (.ret v H') ∧ ∀ d, o.dst = some d → T[d]? = some v
    | .pan _ => False
  | none => False

/-- An operation that panics. -/
def PanGood (P : Program) (l : List Oper) (T : List AV) (Q : AEx → List AV → List AObj → Prop) (H : List AObj) (o : Oper) : Prop :=
  match aWanted l T o with
  | some true => match aStep P T H o with
    | .pan x => ∀ tm', Q (.pan x) tm' H
    | .enter f args => ∃ x H', ARun P f args H (.pan x H') ∧ ∀ tm', Q (.pan x) tm' H'
    | _ => False
  | _ => False

/-- bad: the operations that panic; what stands behind them is never carried out. -/
def GoodFrom (P : Program) (l : List Oper) (T : List AV) (Hs : List (List AObj)) (effs : List Nat) (wins : List (Nat × Nat)) (tab : List (List Nat)) (bad : List Nat) (Q : AEx → List AV → List AObj → Prop) : Nat → List Oper → Prop
  | _, [] => True
  | i, o :: rest => (if (bad.any fun b => (tab.getD i []).contains b) = true then True else if bad.contains i then
        (if effs.contains i then PanGood P l T Q (Hs.getD (effs.idxOf i) []) o else ∀ j ∈ List.range' (wins.getD i (0, 0)).1 ((wins.getD i (0, 0)).2 + 1 - (wins.getD i (0, 0)).1), PanGood P l T Q (Hs.getD j []) o)
      else if effs.contains i then OpGood P l T (Hs.getD (effs.idxOf i) []) o (Hs.getD (effs.idxOf i + 1) []) else
      ∀ j ∈ List.range' (wins.getD i (0, 0)).1 ((wins.getD i (0, 0)).2 + 1 - (wins.getD i (0, 0)).1), OpGood P l T (Hs.getD j []) o (Hs.getD j [])) ∧ GoodFrom P l T Hs effs wins tab bad Q (i + 1) rest

theorem GoodFrom.get {P : Program} {l : List Oper} {T : List AV} {Hs : List (List AObj)} {effs : List Nat} {wins : List (Nat × Nat)} {tab : List (List Nat)} {bad : List Nat} {Q : AEx → List AV → List AObj → Prop} : ∀ {i : Nat} {rest : List Oper}, GoodFrom P l T Hs effs wins tab bad Q i rest →
    ∀ k o, rest[k]? = some o → (∀ b ∈ bad, b ∉ tab.getD (i + k) []) → (effs.contains (i + k) = true → if bad.contains (i + k) then PanGood P l T Q (Hs.getD (effs.idxOf (i + k)) []) o else OpGood P l T (Hs.getD (effs.idxOf (i + k)) []) o (Hs.getD (effs.idxOf (i + k) + 1) [])) ∧
      (effs.contains (i + k) = false → ∀ j, (wins.getD (i + k) (0, 0)).1 ≤ j → j ≤ (wins.getD (i + k) (0, 0)).2 → if bad.contains (i + k) then PanGood P l T Q (Hs.getD j []) o else OpGood P l T (Hs.getD j []) o (Hs.getD j []))
  | i, [], _, k, o, h, _ => by simp at h
  | i, x :: rest, g, k, o, h, hb => by
    obtain ⟨g1, g2⟩ := g
    cases k with
    | zero =>
      simp only [List.getElem?_cons_zero, Option.some.injEq] at h
      subst h
      simp only [Nat.add_zero] at hb ⊢
      rw [if_neg (by simp only [List.any_eq_true, List.contains_iff_mem, not_exists, not_and]; exact hb)] at g1
      constructor
      · intro hc
        split
        · rename_i hbc; rw [if_pos hbc, if_pos hc] at g1; exact g1
        · rename_i hbc; rw [if_neg hbc, if_pos hc] at g1; exact g1
      · intro hc j h1 h2
        have hm : j ∈ List.range' (wins.getD i (0, 0)).1 ((wins.getD i (0, 0)).2 + 1 - (wins.getD i (0, 0)).1) := by rw [List.mem_range'_1]; omega
        split
        · rename_i hbc; rw [if_pos hbc, if_neg (by rw [hc]; simp)] at g1; exact g1 j hm
        · rename_i hbc; rw [if_neg hbc, if_neg (by rw [hc]; simp)] at g1; exact g1 j hm
    | succ k =>
      simp only [List.getElem?_cons_succ] at h
      have := g2.get k o h (by rw [show i + 1 + k = i + (k + 1) by omega]; exact hb)
      rw [show i + 1 + k = i + (k + 1) by omega] at this
      exact this

theorem aev_congr {tm tm' : List AV} {x : Operand} (h : ∀ t, x = .tmp t → tm[t]? = tm'[t]?) : aev tm x = aev tm' x := by
  cases x with
  | tmp t => simp only [aev]; rw [h t rfl]
  | _ => rfl

theorem aStep_congr {P : Program} {tm tm' : List AV} {H : List AObj} {o : Oper} (h : ∀ x ∈ o.op.operands, aev tm x = aev tm' x) : aStep P tm H o = aStep P tm' H o := by
  have pairs : ∀ ps : Array (Nat × Operand), (∀ x ∈ (ps.toList.map (·.2)).toArray, aev tm x = aev tm' x) → (ps.toList.map fun p => (p.1, aev tm p.2)) = ps.toList.map fun p => (p.1, aev tm' p.2) := by
    intro ps hp
    apply List.map_congr_left
    intro p hm
    rw [hp p.2 (by simp; exact ⟨p.1, by simpa using hm⟩)]
  have lists : ∀ xs : List Operand, (∀ x ∈ xs, aev tm x = aev tm' x) → xs.map (aev tm) = xs.map (aev tm') := fun xs hx => List.map_congr_left hx
  have bounds : ∀ b : Option Operand, (∀ x, b = some x → aev tm x = aev tm' x) → aBound tm b = aBound tm' b := by
    intro b hb
    cases b with
    | none => rfl
    | some x => simp only [aBound]; rw [hb x rfl]
  unfold aStep
  cases hop : o.op <;> rw [hop] at h <;> (try simp only [Op.operands] at h) <;> (try simp only)
  case move x => rw [h x (by simp)]
  case assign x => rw [h x (by simp)]
  case pick c a b => rw [h c (by simp), h a (by simp), h b (by simp)]
  case box t x => rw [h x (by simp)]
  case build t ps => rw [pairs ps (by simpa using h)]
  case buildSlice t n ps => rw [pairs ps (by simpa using h)]
  case load t x => rw [h x (by simp)]
  case store t a v => rw [h a (by simp), h v (by simp)]
  case nilCheck x => rw [h x (by simp)]
  case binOp op t x y t' => rw [h x (by simp), h y (by simp)]
  case unOp op t x => cases op <;> simp only <;> rw [h x (by simp)]
  case makeInterface t x => rw [h x (by simp)]
  case convert t u x => rw [h x (by simp)]
  case makeFunc f fi ca => rw [lists fi.toList (fun x hx => h x (by simp at hx ⊢; exact .inl hx)), lists ca.toList (fun x hx => h x (by simp at hx ⊢; exact .inr hx))]
  case fieldAddr s x f => rw [h x (by simp)]
  case field s x f => rw [h x (by simp)]
  case indexAddr t x i => rw [h x (by simp), h i (by simp)]
  case index t x i => rw [h x (by simp), h i (by simp)]
  case extract x i => rw [h x (by simp)]
  case slice t x lo hi mx =>
    cases mx with
    | some m => rfl
    | none =>
      simp only
      rw [h x (by simp), bounds lo (fun y hy => h y (by subst hy; simp)), bounds hi (fun y hy => h y (by subst hy; simp))]
  case makeSlice t l c => rw [h l (by simp), h c (by simp)]
  case call c =>
    unfold aCall
    have hargs : ∀ x ∈ c.args.toList, aev tm x = aev tm' x := fun x hx => h x (by simp only [Call.operands]; exact Array.mem_append.2 (.inr (by simpa using hx)))
    cases hc : c.callee with
    | value f =>
      have hf := h f (by simp [Call.operands, hc])
      (try simp only)
      rw [hf, lists _ hargs]
    | invoke r m => rfl
    | builtin b =>
      cases b <;> (try simp only)
      case len =>
        cases hx : c.args.toList with
        | nil => rfl
        | cons x xs => cases xs with
          | nil =>
            have e := hargs x (by rw [hx]; simp)
            cases c.argTypes.toList with
            | nil => rfl
            | cons t ts => cases ts with
              | nil => simp only [e]
              | cons => rfl
          | cons => rfl
      case max => rw [lists _ hargs]
      case min => rw [lists _ hargs]
      case append =>
        cases hx : c.args.toList with
        | nil => rfl
        | cons x xs => cases xs with
          | nil => rfl
          | cons y ys => cases ys with
            | nil =>
              have e1 := hargs x (by rw [hx]; simp)
              have e2 := hargs y (by rw [hx]; simp)
              cases c.argTypes.toList with
              | nil => rfl
              | cons t ts => cases ts with
                | nil => rfl
                | cons t' ts => cases ts with
                  | nil => simp only [e1, e2]
                  | cons => rfl
            | cons => rfl
  case panic x => rw [h x (by simp)]

theorem aConcs_congr {tm tm' : List AV} {o : Oper} (h : ∀ x ∈ o.op.operands, aev tm x = aev tm' x) : aConcs tm o = aConcs tm' o ∧ execOp (aRho tm) o = execOp (aRho tm') o ∨ notSelect o.op = false := by
  cases hs : notSelect o.op with
  | false => exact .inr rfl
  | true =>
    refine .inl ⟨?_, execOp_congr o (fun cs b e => by rw [e] at hs; simp [notSelect] at hs) (fun x hx => by unfold aRho; rw [h x hx])⟩
    unfold aConcs
    rw [Bool.eq_iff_iff, List.all_eq_true, List.all_eq_true]
    constructor
    · intro hh x hx; rw [← h x (by simpa using hx)]; exact hh x hx
    · intro hh x hx; rw [h x (by simpa using hx)]; exact hh x hx

section
variable {P : Program} {l : List Oper} {tab : List (List Nat)} {effs : List Nat} {wins : List (Nat × Nat)} {bad : List Nat} {T tm0 : List AV} {Hs : List (List AObj)}
  {w0 : World} {B0 : BMap} {S0 : Nat → Prop} {H0 : List AObj} {D : List Deferred} {Q : AEx → List AV → List AObj → Prop}

def Lst (listed : Array Bool) (i : Nat) : Prop := listed.getD i false = true

/-- Where a schedule stands. -/
structure DInv (l : List Oper) (tab : List (List Nat)) (effs : List Nat) (T tm0 : List AV) (listed : Array Bool) (j : Nat) (tm : List AV) : Prop where
  size : listed.size = l.length
  closed : ∀ i, Lst listed i → ∀ k ∈ tab.getD i [], Lst listed k
  ef : ∀ e ∈ effs, (Lst listed e ↔ e ∈ effs.take j)
  jle : j ≤ effs.length
  len : tm.length = tm0.length
  done : ∀ i d, Lst listed i → opDst l i = some d → tm[d]? = T[d]?
  rest : ∀ d, (∀ i, Lst listed i → opDst l i ≠ some d) → tm[d]? = tm0[d]?

structure DOk (l : List Oper) (tab : List (List Nat)) (effs : List Nat) (wins : List (Nat × Nat)) : Prop where
  nodup : effs.Nodup
  lt : ∀ e ∈ effs, e < l.length
  aft : ∀ i, i < l.length → ∀ k ∈ opAfter l i, k < i
  anc : ∀ i, i < l.length → ∀ k ∈ tab.getD i [], ∃ e ∈ opAfter l i, k = e ∨ k ∈ tab.getD e []
  sel : ∀ (i : Nat) (o : Oper), l[i]? = some o → notSelect o.op = true
  tmps : ∀ (i : Nat) (o : Oper), l[i]? = some o → ∀ t ∈ opTmps l o, ∀ j, j < l.length → opDst l j = some t → j ∈ tab.getD i []
  dst : ∀ i j, i < l.length → j < l.length → j ≠ i → ∀ d, opDst l j = some d → opDst l i ≠ some d
  ord : ∀ i, i < l.length → i ∈ effs → ∀ e ∈ effs.take (effs.idxOf i), e ∈ tab.getD i []
  win : ∀ i, i < l.length → wins.getD i (0, 0) = (winLo tab effs i, winHi tab effs i)

theorem drawOk_spec (h : drawOk l tab effs wins = true) : DOk l tab effs wins := by
  unfold drawOk at h
  simp only [Bool.and_eq_true, List.all_eq_true, List.mem_range, decide_eq_true_eq] at h
  obtain ⟨⟨h1, h2⟩, h3⟩ := h
  refine ⟨h1, h2, fun i hi => (h3 i hi).1.1.1.1.1, ?_, ?_, ?_, ?_, ?_, ?_⟩
  · intro i hi k hk
    have := (h3 i hi).1.1.1.1.2 k hk
    simp only [List.any_eq_true, Bool.or_eq_true, beq_iff_eq, List.contains_iff_mem] at this
    exact this
  · intro i o ho
    have := (h3 i (List.getElem?_eq_some_iff.1 ho).1).1.1.1.2
    rw [ho] at this
    simp only [Bool.and_eq_true] at this
    exact this.1
  · intro i o ho t ht j hj hd
    have := (h3 i (List.getElem?_eq_some_iff.1 ho).1).1.1.1.2
    rw [ho] at this
    simp only [Bool.and_eq_true, List.all_eq_true, List.mem_range, Bool.or_eq_true, bne_iff_ne, List.contains_iff_mem] at this
    exact (this.2 t ht j hj).resolve_left (fun hh => hh hd)
  · intro i j hi hj hne d hd hd'
    have := (h3 i hi).1.1.2 j hj
    simp only [Bool.or_eq_true, beq_iff_eq, bne_iff_ne, hd, hd'] at this
    rcases this with (h | h) | h
    · exact hne h
    · simp at h
    · exact h rfl
  · intro i hi hie e he
    have := (h3 i hi).1.2
    simp only [Bool.or_eq_true, Bool.not_eq_true', List.all_eq_true, List.contains_iff_mem] at this
    rcases this with h | h
    · have : effs.contains i = true := by simpa using hie
      rw [this] at h; cases h
    · exact h e he
  · intro i hi
    have := (h3 i hi).2
    simpa using this

theorem mem_ready' {listed : Array Bool} {i : Nat} (h : i ∈ Region.ready .any l.toArray listed) : listed.getD i true = false ∧ i < l.length ∧ ∀ k ∈ opAfter l i, Lst listed k := by
  obtain ⟨h1, o, ho, h2⟩ := mem_ready.1 h
  have ho' : l[i]? = some o := by simpa using ho
  refine ⟨h1, (List.getElem?_eq_some_iff.1 ho').1, ?_⟩
  intro k hk
  unfold opAfter at hk
  rw [ho'] at hk
  simp only [List.mem_map, List.mem_filter] at hk
  obtain ⟨e, ⟨he, hb⟩, rfl⟩ := hk
  exact h2 e (by simpa using he) hb

theorem ready_of (hk : DOk l tab effs wins) {listed : Array Bool} (hsz : listed.size = l.length) (h : Region.ready .any l.toArray listed = []) : ∀ i, i < l.length → Lst listed i := by
  intro i
  induction i using Nat.strongRecOn with
  | _ i ih =>
    intro hi
    cases hl : listed.getD i false with
    | true => exact hl
    | false =>
      exfalso
      have : i ∈ Region.ready .any l.toArray listed := by
        rw [mem_ready]
        refine ⟨?_, l[i], by simp [hi], ?_⟩
        · have hlt : i < listed.size := by omega
          simp only [Array.getD_eq_getD_getElem?, Array.getElem?_eq_getElem hlt, Option.getD_some] at hl ⊢
          exact hl
        · intro e he hb
          have hke : e.on ∈ opAfter l i := by
            unfold opAfter
            rw [List.getElem?_eq_getElem hi]
            simp only [List.mem_map, List.mem_filter]
            exact ⟨e, ⟨by simpa using he, hb⟩, rfl⟩
          have := hk.aft i hi _ hke
          exact ih _ this (by omega)
      rw [h] at this
      cases this

theorem lst_set {listed : Array Bool} {i k : Nat} (hi : i < listed.size) : Lst (listed.setIfInBounds i true) k ↔ (k = i ∨ Lst listed k) := by
  unfold Lst
  simp only [Array.getD_eq_getD_getElem?, Array.getElem?_setIfInBounds]
  by_cases e : i = k
  · subst e; simp [hi]
  · simp [e, show ¬ k = i from fun h => e h.symm]

theorem takeWhile_len {p : Nat → Bool} : ∀ (xs : List Nat) (j : Nat), (xs.takeWhile p).length < j → j ≤ xs.length → ∃ e ∈ xs.take j, p e = false
  | [], j, h, hl => by simp at h hl; omega
  | x :: xs, j, h, hl => by
    cases j with
    | zero => simp at h
    | succ j =>
      cases hp : p x with
      | false => exact ⟨x, by simp, hp⟩
      | true =>
        rw [List.takeWhile_cons, hp] at h
        simp only [if_true, List.length_cons] at h hl
        obtain ⟨e, he, hpe⟩ := takeWhile_len (p := p) xs j (by omega) (by omega)
        exact ⟨e, by simp [he], hpe⟩

theorem filter_len {p : Nat → Bool} {xs : List Nat} {j : Nat} (hn : xs.Nodup) (h : ∀ e ∈ xs, p e = true → e ∈ xs.take j) : (xs.filter p).length ≤ j := by
  have e : xs.filter p = (xs.take j).filter p ++ (xs.drop j).filter p := by rw [← List.filter_append, List.take_append_drop]
  have hz : (xs.drop j).filter p = [] := by
    rw [List.filter_eq_nil_iff]
    intro x hx hpx
    have h1 := h x (List.mem_of_mem_drop hx) hpx
    rw [← List.take_append_drop j xs] at hn
    exact (List.nodup_append.1 hn).2.2 x h1 x hx rfl
  rw [e, hz, List.append_nil]
  have h1 := List.length_filter_le p (xs.take j)
  have h2 : (xs.take j).length ≤ j := by simp; omega
  omega

theorem opgood_op {tm : List AV} {listed : Array Bool} {j : Nat} (hk : DOk l tab effs wins) (inv : DInv l tab effs T tm0 listed j tm) {i : Nat} {o : Oper} (hi : l[i]? = some o)
    (hanc : ∀ k ∈ tab.getD i [], Lst listed k) (hT : ∀ s, (∀ i, i < l.length → opDst l i ≠ some s) → T[s]? = tm0[s]?) :
    (∀ x ∈ o.op.operands, aev tm x = aev T x) ∧ aWanted l tm o = aWanted l T o := by
  have slot : ∀ t ∈ opTmps l o, tm[t]? = T[t]? := by
    intro t ht
    by_cases hw : ∃ k, k < l.length ∧ opDst l k = some t
    · obtain ⟨k, hk1, hk2⟩ := hw
      exact inv.done k t (hanc k (hk.tmps i o hi t ht k hk1 hk2)) hk2
    · have h1 : ∀ k, k < l.length → opDst l k ≠ some t := fun k hk1 hk2 => hw ⟨k, hk1, hk2⟩
      rw [hT t h1]
      refine inv.rest t (fun k _ hk2 => ?_)
      have : k < l.length := by
        unfold opDst at hk2
        cases hx : l[k]? with
        | none => rw [hx] at hk2; cases hk2
        | some o' => exact (List.getElem?_eq_some_iff.1 hx).1
      exact h1 k this hk2
  constructor
  · intro x hx
    refine aev_congr (fun t e => slot t ?_)
    subst e
    unfold opTmps
    exact List.mem_append_left _ (List.mem_filterMap.2 ⟨.tmp t, by simpa using hx, rfl⟩)
  · unfold aWanted
    cases hg : o.guard with
    | none => rfl
    | some jw =>
      obtain ⟨g, want⟩ := jw
      simp only
      cases hd : (l[g]?).bind (·.dst) with
      | none => rfl
      | some d =>
        simp only
        rw [slot d ?_]
        unfold opTmps
        refine List.mem_append_right _ ?_
        rw [hg]
        simp only [opDst, hd, Option.toList_some, List.mem_singleton]

theorem draw_aux (hk : DOk l tab effs wins) (hbad : ∀ b ∈ bad, b < l.length) (good : GoodFrom P l T Hs effs wins tab bad Q 0 l) (hT : ∀ s, (∀ i, i < l.length → opDst l i ≠ some s) → T[s]? = tm0[s]?) (hTl : T.length = tm0.length)
    (hQ : bad = [] → Q .normal T (Hs.getD effs.length [])) : ∀ (fuel : Nat) (listed : Array Bool) (j : Nat) (tm : List AV) (a : Act) (w : World) (B : BMap) (S : Nat → Prop),
      DInv l tab effs T tm0 listed j tm → (∀ b ∈ bad, ¬ Lst listed b) → Sim w0 B0 S0 H0 D tm (Hs.getD j []) a w B S → ((List.range l.length).filter fun i => !listed.getD i false).length ≤ fuel →
      wpAny P .any l.toArray (LiftQ w0 B0 S0 H0 D Q) fuel listed a w := by
  have atEnd : ∀ (listed : Array Bool) (j : Nat) (tm : List AV) (a : Act) (w : World) (B : BMap) (S : Nat → Prop), DInv l tab effs T tm0 listed j tm → (∀ b ∈ bad, ¬ Lst listed b) → Sim w0 B0 S0 H0 D tm (Hs.getD j []) a w B S →
      (∀ i, i < l.length → Lst listed i) → LiftQ w0 B0 S0 H0 D Q .normal a w := by
    intro listed j tm a w B S inv hnb s hall
    have hbn : bad = [] := by
      cases hb : bad with
      | nil => rfl
      | cons b bs => exact absurd (hall b (hbad b (by rw [hb]; simp))) (hnb b (by rw [hb]; simp))
    have hj : j = effs.length := by
      rcases Nat.lt_or_ge j effs.length with h | h
      · exfalso
        have hm : effs[j] ∈ effs := List.getElem_mem h
        have := (inv.ef _ hm).1 (hall _ (hk.lt _ hm))
        obtain ⟨k, hk1, hk2⟩ := List.mem_take_iff_getElem.1 this
        have := (List.getElem_inj hk.nodup).1 hk2
        omega
      · have := inv.jle; omega
    subst hj
    have htm : tm = T := by
      apply List.ext_getElem?
      intro d
      by_cases hw : ∃ k, k < l.length ∧ opDst l k = some d
      · obtain ⟨k, hk1, hk2⟩ := hw
        exact inv.done k d (hall k hk1) hk2
      · rw [hT d (fun k hk1 hk2 => hw ⟨k, hk1, hk2⟩)]
        refine inv.rest d (fun k _ hk2 => ?_)
        have : k < l.length := by
          unfold opDst at hk2
          cases hx : l[k]? with
          | none => rw [hx] at hk2; cases hk2
          | some o' => exact (List.getElem?_eq_some_iff.1 hx).1
        exact hw ⟨k, this, hk2⟩
    subst htm
    exact ⟨.normal, tm, _, B, S, hQ hbn, s, trivial⟩
  intro fuel
  induction fuel with
  | zero =>
    intro listed j tm a w B S inv hnb s hf
    have hall : ∀ i, i < l.length → Lst listed i := by
      intro i hi
      have hnil : ((List.range l.length).filter fun i => !listed.getD i false) = [] := List.eq_nil_of_length_eq_zero (by omega)
      rw [List.filter_eq_nil_iff] at hnil
      have := hnil i (by simpa using hi)
      simpa [Lst] using this
    refine ⟨?_, atEnd listed j tm a w B S inv hnb s hall⟩
    cases hr : Region.ready .any l.toArray listed with
    | nil => rfl
    | cons i rs =>
      exfalso
      have hm : i ∈ Region.ready .any l.toArray listed := by rw [hr]; simp
      obtain ⟨h1, h2, _⟩ := mem_ready' hm
      have := hall i h2
      unfold Lst at this
      simp only [Array.getD_eq_getD_getElem?] at this h1
      have hlt : i < listed.size := by rw [inv.size]; exact h2
      simp only [Array.getElem?_eq_getElem hlt, Option.getD_some] at this h1
      rw [this] at h1; cases h1
  | succ fuel ih =>
    intro listed j tm a w B S inv hnb s hf
    refine ⟨fun hr => atEnd listed j tm a w B S inv hnb s (ready_of hk inv.size hr), ?_⟩
    intro i hi
    obtain ⟨hun, hil, haft⟩ := mem_ready' hi
    have hlt : i < listed.size := by rw [inv.size]; exact hil
    have hnot : ¬ Lst listed i := by
      unfold Lst
      simp only [Array.getD_eq_getD_getElem?, Array.getElem?_eq_getElem hlt, Option.getD_some] at hun ⊢
      rw [hun]; simp
    obtain ⟨o, ho⟩ : ∃ o, l[i]? = some o := ⟨l[i], List.getElem?_eq_getElem hil⟩
    have hanc : ∀ k ∈ tab.getD i [], Lst listed k := by
      intro k hk'
      obtain ⟨e, he, hke⟩ := hk.anc i hil k hk'
      rcases hke with rfl | hke
      · exact haft k he
      · exact inv.closed e (haft e he) k hke
    obtain ⟨hev, hwant⟩ := opgood_op hk inv ho hanc hT
    -- the next stage
    have hnanc : ∀ b ∈ bad, b ∉ tab.getD (0 + i) [] := by intro b hb hm; rw [Nat.zero_add] at hm; exact hnb b hb (hanc b hm)
    have hoi : (l.toArray)[i]? = some o := by simpa using ho
    by_cases hib : bad.contains i = true
    · have hpan : PanGood P l T Q (Hs.getD j []) o := by
        obtain ⟨g1, g2⟩ := good.get i o ho hnanc
        simp only [Nat.zero_add, hib, if_true] at g1 g2
        by_cases hie : i ∈ effs
        · have hidx : effs.idxOf i < effs.length := List.idxOf_lt_length_of_mem hie
          have hix : effs[effs.idxOf i] = i := List.getElem_idxOf hidx
          have hle : effs.idxOf i ≤ j := by
            rcases Nat.lt_or_ge j (effs.idxOf i) with h | h
            · exfalso
              have hjl : j < effs.length := by omega
              have hm : effs[j] ∈ effs.take (effs.idxOf i) := List.mem_take_iff_getElem.2 ⟨j, by omega, rfl⟩
              have h1 := hanc _ (hk.ord i hil hie _ hm)
              have h2 := (inv.ef _ (List.getElem_mem hjl)).1 h1
              obtain ⟨k, hk1, hk2⟩ := List.mem_take_iff_getElem.1 h2
              have := (List.getElem_inj hk.nodup).1 hk2
              omega
            · exact h
          have hge : j ≤ effs.idxOf i := by
            rcases Nat.lt_or_ge (effs.idxOf i) j with h | h
            · exfalso
              exact hnot ((inv.ef i hie).2 (List.mem_take_iff_getElem.2 ⟨effs.idxOf i, by omega, hix⟩))
            · exact h
          have hje : j = effs.idxOf i := by omega
          have := g1 (by simpa using hie)
          rw [← hje] at this; exact this
        · refine g2 (by simpa using hie) j ?_ ?_
          · rw [hk.win i hil]
            refine filter_len hk.nodup (fun e he hc => ?_)
            exact (inv.ef e he).1 (hanc e (by simpa using hc))
          · rw [hk.win i hil]
            rcases Nat.lt_or_ge (winHi tab effs i) j with h | h
            · exfalso
              obtain ⟨e, he, hpe⟩ := takeWhile_len (p := fun e => !(tab.getD e []).contains i) effs j h inv.jle
              have hee : e ∈ effs := List.mem_of_mem_take he
              have h1 := (inv.ef e hee).2 he
              have h2 : i ∈ tab.getD e [] := by simpa using hpe
              exact hnot (inv.closed e h1 i h2)
            · exact h
      unfold wpOp
      rw [hoi]
      simp only
      unfold PanGood at hpan
      cases hw : aWanted l T o with
      | none => rw [hw] at hpan; exact hpan.elim
      | some b =>
        rw [hw] at hpan
        rw [s.wanted (hwant.trans hw)]
        cases b with
        | false => exact hpan.elim
        | true =>
          simp only at hpan
          simp only [if_true]
          refine .inl ?_
          have hstep : aStep P tm (Hs.getD j []) o = aStep P T (Hs.getD j []) o := aStep_congr hev
          cases hs : aStep P T (Hs.getD j []) o with
          | next v H1 => rw [hs] at hpan; exact hpan.elim
          | run => rw [hs] at hpan; exact hpan.elim
          | pan x =>
            rw [hs] at hpan
            simp only at hpan
            obtain ⟨v, hrun, hx⟩ := step_pan s (hstep.trans hs)
            unfold Oper.wp
            rw [hrun]
            exact ⟨.pan x, tm, _, B, S, hpan tm, s, v, rfl, hx⟩
          | enter f args =>
            rw [hs] at hpan
            simp only at hpan
            obtain ⟨x, H', ⟨hcall, hrunA⟩, hq⟩ := hpan
            obtain ⟨vs, hrun, hargs⟩ := enter_args s (hstep.trans hs) hcall
            unfold Oper.wp
            rw [hrun]
            refine (hrunA w B S vs s.hrel hargs).mono (fun e w' hew => ?_)
            obtain ⟨B', S', st, hr, he⟩ := hew
            cases e with
            | returned v => exact he.elim
            | panicked c => exact ⟨.pan x, tm, H', B', S', hq tm, s.mono st hr, he⟩
            | outgrown => exact he.elim
    obtain ⟨j', hj', hgood, hef'⟩ : ∃ j', j' ≤ effs.length ∧ OpGood P l T (Hs.getD j []) o (Hs.getD j' []) ∧ (∀ e ∈ effs, (e = i ∨ Lst listed e ↔ e ∈ effs.take j')) := by
      obtain ⟨g1, g2⟩ := good.get i o ho hnanc
      simp only [Nat.zero_add] at g1 g2
      simp only [if_neg hib] at g1 g2
      by_cases hie : i ∈ effs
      · have hidx : effs.idxOf i < effs.length := List.idxOf_lt_length_of_mem hie
        have hix : effs[effs.idxOf i] = i := List.getElem_idxOf hidx
        have hle : effs.idxOf i ≤ j := by
          rcases Nat.lt_or_ge j (effs.idxOf i) with h | h
          · exfalso
            have hjl : j < effs.length := by omega
            have hm : effs[j] ∈ effs.take (effs.idxOf i) := List.mem_take_iff_getElem.2 ⟨j, by omega, rfl⟩
            have h1 := hanc _ (hk.ord i hil hie _ hm)
            have h2 := (inv.ef _ (List.getElem_mem hjl)).1 h1
            obtain ⟨k, hk1, hk2⟩ := List.mem_take_iff_getElem.1 h2
            have := (List.getElem_inj hk.nodup).1 hk2
            omega
          · exact h
        have hge : j ≤ effs.idxOf i := by
          rcases Nat.lt_or_ge (effs.idxOf i) j with h | h
          · exfalso
            exact hnot ((inv.ef i hie).2 (List.mem_take_iff_getElem.2 ⟨effs.idxOf i, by omega, hix⟩))
          · exact h
        have hje : j = effs.idxOf i := by omega
        refine ⟨j + 1, by omega, ?_, ?_⟩
        · have := g1 (by simpa using hie)
          rw [← hje] at this; exact this
        · intro e he
          have hjl : j < effs.length := by omega
          have htake : effs.take (j + 1) = effs.take j ++ [i] := by
            rw [List.take_succ_eq_append_getElem hjl]
            congr 2
            have : effs[j] = effs[effs.idxOf i] := by congr 1
            rw [this, hix]
          rw [htake, List.mem_append, List.mem_singleton, inv.ef e he, Or.comm]
      · refine ⟨j, inv.jle, ?_, ?_⟩
        · refine g2 (by simpa using hie) j ?_ ?_
          · rw [hk.win i hil]
            refine filter_len hk.nodup (fun e he hc => ?_)
            exact (inv.ef e he).1 (hanc e (by simpa using hc))
          · rw [hk.win i hil]
            rcases Nat.lt_or_ge (winHi tab effs i) j with h | h
            · exfalso
              obtain ⟨e, he, hpe⟩ := takeWhile_len (p := fun e => !(tab.getD e []).contains i) effs j h inv.jle
              have hee : e ∈ effs := List.mem_of_mem_take he
              have h1 := (inv.ef e hee).2 he
              have h2 : i ∈ tab.getD e [] := by simpa using hpe
              exact hnot (inv.closed e h1 i h2)
            · exact h
        · intro e he
          rw [← inv.ef e he]
          constructor
          · rintro (rfl | h)
            · exact absurd he hie
            · exact h
          · exact .inr
    -- the state behind it
    have next : ∀ (v : AV), (∀ d, o.dst = some d → T[d]? = some v) → DInv l tab effs T tm0 (listed.setIfInBounds i true) j' (aput tm o.dst v) := by
      intro v hv
      have hdi : opDst l i = o.dst := by unfold opDst; rw [ho]; rfl
      refine ⟨by simpa using inv.size, ?_, ?_, hj', ?_, ?_, ?_⟩
      · intro k hk1 k' hk2
        rw [lst_set hlt] at hk1 ⊢
        rcases hk1 with rfl | hk1
        · exact .inr (hanc k' hk2)
        · exact .inr (inv.closed k hk1 k' hk2)
      · intro e he
        rw [lst_set hlt]
        exact hef' e he
      · cases o.dst <;> simp [aput, inv.len]
      · intro k d hk1 hd
        rw [lst_set hlt] at hk1
        cases hod : o.dst with
        | none =>
          simp only [aput]
          rcases hk1 with rfl | hk1
          · rw [hdi, hod] at hd; cases hd
          · exact inv.done k d hk1 hd
        | some d' =>
          simp only [aput]
          by_cases e : d' = d
          · subst e
            have hTd := hv d' hod
            rw [hTd]
            have : d' < tm.length := by rw [inv.len, ← hTl]; exact (List.getElem?_eq_some_iff.1 hTd).1
            simp [this]
          · rw [List.getElem?_set, if_neg e]
            rcases hk1 with rfl | hk1
            · rw [hdi, hod] at hd; simp only [Option.some.injEq] at hd; exact absurd hd e
            · exact inv.done k d hk1 hd
      · intro d hd
        have h1 : o.dst ≠ some d := by
          have := hd i ((lst_set hlt).2 (.inl rfl))
          rwa [hdi] at this
        have h2 : ∀ k, Lst listed k → opDst l k ≠ some d := fun k hk' => hd k ((lst_set hlt).2 (.inr hk'))
        cases hod : o.dst with
        | none => simp only [aput]; exact inv.rest d h2
        | some d' =>
          simp only [aput]
          rw [List.getElem?_set, if_neg (fun e => h1 (by rw [hod, e]))]
          exact inv.rest d h2
    have hfuel : ((List.range l.length).filter fun k => !(listed.setIfInBounds i true).getD k false).length ≤ fuel := by
      have hsub : ((List.range l.length).filter fun k => !(listed.setIfInBounds i true).getD k false) = ((List.range l.length).filter fun k => !listed.getD k false).filter (fun k => k != i) := by
        rw [List.filter_filter]
        apply List.filter_congr
        intro k hk'
        have := lst_set (listed := listed) (i := i) (k := k) hlt
        unfold Lst at this
        by_cases e : k = i
        · subst e
          have h := this.2 (.inl rfl)
          rw [h]; simp
        · have h : (listed.setIfInBounds i true).getD k false = listed.getD k false := by
            rw [Bool.eq_iff_iff, this]
            constructor
            · rintro (h | h)
              · exact absurd h e
              · exact h
            · exact .inr
          rw [h]; simp [e]
      rw [hsub]
      have hmem : i ∈ (List.range l.length).filter fun k => !listed.getD k false := by
        rw [List.mem_filter]
        refine ⟨by simpa using hil, ?_⟩
        unfold Lst at hnot
        simpa using hnot
      have hlt' : (((List.range l.length).filter fun k => !listed.getD k false).filter (fun k => k != i)).length < ((List.range l.length).filter fun k => !listed.getD k false).length := by
        apply List.length_filter_lt_length_iff_exists.2
        exact ⟨i, hmem, by simp⟩
      omega
    have go : ∀ (v : AV) (x : Value) (w' : World) (B' : BMap) (S' : Nat → Prop), (∀ d, o.dst = some d → T[d]? = some v) → Sim w0 B0 S0 H0 D tm (Hs.getD j' []) a w' B' S' → ARel w' B' S' (Hs.getD j' []) v x →
        wpAny P .any l.toArray (LiftQ w0 B0 S0 H0 D Q) fuel (listed.setIfInBounds i true) (a.put o.dst x) w' := by
      intro v x w' B' S' hv s' hx
      refine ih _ j' _ _ _ _ _ (next v hv) (fun b hb hl => ?_) (s'.put o.dst hx) hfuel
      rw [lst_set hlt] at hl
      rcases hl with rfl | hl
      · exact hib (by simpa using hb)
      · exact hnb b hb hl
    unfold wpOp
    rw [hoi]
    simp only
    unfold OpGood at hgood
    cases hw : aWanted l T o with
    | none => rw [hw] at hgood; exact hgood.elim
    | some b =>
      rw [hw] at hgood
      rw [s.wanted (hwant.trans hw)]
      cases b with
      | false =>
        simp only at hgood
        simp only [Bool.false_eq_true, if_false]
        obtain ⟨h1, h2⟩ := hgood
        exact go (.tup []) undef w B S h1 (by rw [h2]; exact s) (by rw [h2]; exact undef_rel)
      | true =>
        simp only at hgood
        simp only [if_true]
        refine .inl ?_
        have hstep : aStep P tm (Hs.getD j []) o = aStep P T (Hs.getD j []) o := aStep_congr hev
        cases hs : aStep P T (Hs.getD j []) o with
        | next v H1 =>
          rw [hs] at hgood
          simp only at hgood
          obtain ⟨h1, h2⟩ := hgood
          obtain ⟨r, w', B', hrun, st, hr, hv⟩ := step_next s.hrel s.ev (hstep.trans hs)
          rw [← h2] at st hr hv
          have s' := s.mono st hr
          unfold Oper.wp
          rcases hrun with hrun | ⟨hrun, rfl⟩
          · rw [hrun]; exact go v r w' B' S h1 s' hv
          · rw [hrun]; exact go v undef w' B' S h1 s' hv
        | pan x => rw [hs] at hgood; exact hgood.elim
        | enter f args =>
          rw [hs] at hgood
          simp only at hgood
          obtain ⟨v, ⟨hcall, hrunA⟩, h1⟩ := hgood
          obtain ⟨vs, hrun, hargs⟩ := enter_args s (hstep.trans hs) hcall
          unfold Oper.wp
          rw [hrun]
          refine (hrunA w B S vs s.hrel hargs).mono (fun e w' hew => ?_)
          obtain ⟨B', S', st, hr, he⟩ := hew
          cases e with
          | returned x => exact go v x w' B' S' h1 (s.mono st hr) he
          | panicked c => exact he.elim
          | outgrown => exact he.elim
        | run =>
          rw [hs] at hgood
          simp only at hgood
          obtain ⟨hc, r, hrun, h1, h2⟩ := hgood
          have hsel := hk.sel i o ho
          rcases aConcs_congr (tm := tm) (tm' := T) hev with ⟨e1, e2⟩ | e
          · have heq : execOp a.eval o = execOp (aRho tm) o := run_eq s (by rw [e1]; exact hc) hsel
            unfold Oper.wp
            rw [heq, e2, hrun w]
            exact go (.ofV r) r w B S h1 (by rw [h2]; exact s) (by rw [h2]; exact .ofV r)
          · rw [hsel] at e; cases e
end
end Go.Proofs.Ytkchihkmhojdnaa.AL

/- A region that draws, asx a rule. -/
set_option linter.unusedVariables false
set_option linter.unusedSimpArgs false
namespace Go.Proofs.Ytkchihkmhojdnaa.AL

def setSlots : List AV → List Tmp → List AV → List AV
  | tm, d :: ds, v :: vs => setSlots (tm.set d v) ds vs
  | tm, _, _ => tm
theorem setSlots_len : ∀ (tm : List AV) (ds : List Tmp) (vs : List AV), (setSlots tm ds vs).length = tm.length
  | tm, [], _ => by simp [setSlots]
  | tm, d :: ds, [] => by simp [setSlots]
  | tm, d :: ds, v :: vs => by simp [setSlots, setSlots_len]
theorem setSlots_ne : ∀ (tm : List AV) (ds : List Tmp) (vs : List AV) (s : Tmp), s ∉ ds → (setSlots tm ds vs)[s]? = tm[s]?
  | tm, [], _, _, _ => by simp [setSlots]
  | tm, d :: ds, [], _, _ => by simp [setSlots]
  | tm, d :: ds, v :: vs, s, h => by
    simp only [List.mem_cons, not_or] at h
    simp only [setSlots]
    rw [setSlots_ne _ ds vs s h.2, List.getElem?_set, if_neg (fun e => h.1 e.symm)]

section
variable {P : Program} {w0 : World} {B0 : BMap} {S0 : Nat → Prop} {H0 : List AObj} {D : List Deferred} {Q : AEx → List AV → List AObj → Prop} {tm : List AV} {H : List AObj} {a : Act} {w : World} {B : BMap} {S : Nat → Prop}

theorem same_step {w' : World} (h : w'.heap = w.heap) (h1 : w'.os = w.os) (h2 : w'.tape = w.tape) (h3 : w'.output = w.output) : Step w B S H w' B S H :=
  ⟨h1, h2, h3, by rw [h]; exact Nat.le_refl _, fun _ h => h, fun _ _ => by rw [h], Nat.le_refl _, fun id t sz rows h => .inr ⟨rows, h, Nat.le_refl _, fun _ => rfl⟩, fun id _ h => ⟨rfl, h⟩⟩

theorem same_hrel {w' : World} (h : w'.heap = w.heap) (st : Step w B S H w' B S H) (hr : HRel w B S H) : HRel w' B S H :=
  ⟨fun id o ho => (hr.obj id o ho).keep st rfl (fun b c _ => by rw [h]), hr.inj, hr.sep, fun b hb => by rw [h]; exact hr.bound b hb⟩

theorem Sim.drawn (s : Sim w0 B0 S0 H0 D tm H a w B S) : Sim w0 B0 S0 H0 D tm H a { w with drawn := w.drawn + 1 } B S := by
  have st : Step w B S H { w with drawn := w.drawn + 1 } B S H := same_step rfl rfl rfl rfl
  exact s.mono st (same_hrel (w := w) rfl st s.hrel)

theorem opDst_mem {l : List Oper} {i : Nat} {d : Tmp} (hi : i < l.length) (h : opDst l i = some d) : d ∈ l.filterMap (·.dst) := by
  unfold opDst at h
  rw [List.getElem?_eq_getElem hi] at h
  exact List.mem_filterMap.2 ⟨l[i], List.getElem_mem hi, by simpa using h⟩

theorem awp_draw {id : Nat} {l : List Oper} (effs : List Nat) (wins : List (Nat × Nat)) (vals : List AV) (Hs : List (List AObj)) {ds : List Tmp} (hm : P.follows .mixedOrders = true)
    (hok : drawOk l (ancTab l) effs wins = true) (hds : l.filterMap (·.dst) = ds)
    (hH : Hs.getD 0 [] = H) (good : GoodFrom P l (setSlots tm ds vals) Hs effs wins (ancTab l) [] Q 0 l)
    (hQ : Q .normal (setSlots tm ds vals) (Hs.getD effs.length [])) : AWP P H0 (.region id l.toArray true) Q tm H := by
  intro w0 B0 S0 D a w B S s
  subst hH
  subst hds
  have hk := drawOk_spec hok
  refine wp_region_any hm ?_
  have hT : ∀ s, (∀ i, i < l.length → opDst l i ≠ some s) → (setSlots tm (l.filterMap (·.dst)) vals)[s]? = tm[s]? := by
    intro s hs
    refine setSlots_ne tm _ vals s (fun hmem => ?_)
    obtain ⟨o, ho, hd⟩ := List.mem_filterMap.1 hmem
    obtain ⟨i, hi, rfl⟩ := List.mem_iff_getElem.1 ho
    exact hs i hi (by unfold opDst; rw [List.getElem?_eq_getElem hi]; exact hd)
  have hnone : ∀ i, ¬ Lst (Array.replicate l.length false) i := by
    intro i hi
    unfold Lst at hi
    simp only [Array.getD_eq_getD_getElem?, Array.getElem?_replicate] at hi
    split at hi <;> simp at hi
  have := draw_aux (P := P) (w0 := w0) (B0 := B0) (S0 := S0) (H0 := H0) (D := D) (Q := Q) (tm0 := tm) (bad := []) hk (by simp) good hT (setSlots_len _ _ _) (fun _ => hQ) l.length (Array.replicate l.length false) 0 tm a { w with drawn := w.drawn + 1 } B S
    ⟨by simp, fun i hi => absurd hi (hnone i), fun e _ => by simp [hnone e], Nat.zero_le _, rfl, fun i d hi => absurd hi (hnone i), fun d _ => rfl⟩ (by simp) s.drawn
    (by exact Nat.le_trans (List.length_filter_le _ _) (by simp))
  simpa using this
theorem awp_drawB {id : Nat} {l : List Oper} {T : List AV} (effs bad : List Nat) (wins : List (Nat × Nat)) (Hs : List (List AObj)) (hm : P.follows .mixedOrders = true)
    (hok : drawOk l (ancTab l) effs wins = true) (hbad : ∀ b ∈ bad, b < l.length)
    (hlen : T.length = tm.length) (hne : ∀ s, (∀ o ∈ l, o.dst ≠ some s) → T[s]? = tm[s]?)
    (hH : Hs.getD 0 [] = H) (good : GoodFrom P l T Hs effs wins (ancTab l) bad Q 0 l)
    (hQ : bad = [] → Q .normal T (Hs.getD effs.length [])) : AWP P H0 (.region id l.toArray true) Q tm H := by
  intro w0 B0 S0 D a w B S s
  subst hH
  have hk := drawOk_spec hok
  refine wp_region_any hm ?_
  have hT : ∀ s, (∀ i, i < l.length → opDst l i ≠ some s) → T[s]? = tm[s]? := by
    intro s hs
    refine hne s (fun o ho hd => ?_)
    obtain ⟨i, hi, rfl⟩ := List.mem_iff_getElem.1 ho
    exact hs i hi (by unfold opDst; rw [List.getElem?_eq_getElem hi]; exact hd)
  have hnone : ∀ i, ¬ Lst (Array.replicate l.length false) i := by
    intro i hi
    unfold Lst at hi
    simp only [Array.getD_eq_getD_getElem?, Array.getElem?_replicate] at hi
    split at hi <;> simp at hi
  have := draw_aux (P := P) (w0 := w0) (B0 := B0) (S0 := S0) (H0 := H0) (D := D) (Q := Q) (tm0 := tm) (bad := bad) hk hbad good hT hlen hQ l.length (Array.replicate l.length false) 0 tm a { w with drawn := w.drawn + 1 } B S
    ⟨by simp, fun i hi => absurd hi (hnone i), fun e _ => by simp [hnone e], Nat.zero_le _, rfl, fun i d hi => absurd hi (hnone i), fun d _ => rfl⟩ (fun b _ => hnone b) s.drawn
    (by exact Nat.le_trans (List.length_filter_le _ _) (by simp))
  simpa using this

/-! ### a plan for a region -/
inductive OpPlan where
  | skip
  | pan (js : List Nat)
  | eff (j : Nat)
  | win (js : List Nat)
  deriving DecidableEq

def winsOf (l : List Oper) (effs : List Nat) : List (Nat × Nat) := (List.range l.length).map fun i => (winLo (ancTab l) effs i, winHi (ancTab l) effs i)
def planAt (tab : List (List Nat)) (effs : List Nat) (wins : List (Nat × Nat)) (bad : List Nat) (i : Nat) : OpPlan :=
  if (bad.any fun b => (tab.getD i []).contains b) = true then .skip else if bad.contains i then
    .pan (if effs.contains i then [effs.idxOf i] else List.range' (wins.getD i (0, 0)).1 ((wins.getD i (0, 0)).2 + 1 - (wins.getD i (0, 0)).1))
  else if effs.contains i then .eff (effs.idxOf i) else .win (List.range' (wins.getD i (0, 0)).1 ((wins.getD i (0, 0)).2 + 1 - (wins.getD i (0, 0)).1))
def planFrom (tab : List (List Nat)) (effs : List Nat) (wins : List (Nat × Nat)) (bad : List Nat) : Nat → Nat → List OpPlan
  | _, 0 => []
  | i, n + 1 => planAt tab effs wins bad i :: planFrom tab effs wins bad (i + 1) n
/-- The operations that turn memory, or enter a function. -/
def isEff : Op → Bool
  | .alloc _ | .box .. | .buildSlice .. | .store .. | .makeSlice .. => true
  | .call c => match c.callee with
    | .builtin .len => false
    | _ => true
  | .panic _ => true
  | _ => false
def effsOf (l : List Oper) : List Nat := (List.range l.length).filter fun i => match l[i]? with
  | some o => isEff o.op
  | none => false
def planOf (l : List Oper) (effs bad : List Nat) : List OpPlan := planFrom (ancTab l) effs (winsOf l effs) bad 0 l.length

def AllAt (Hs : List (List AObj)) (p : List AObj → Prop) : List Nat → Prop
  | [] => True
  | j :: js => p (Hs.getD j []) ∧ AllAt Hs p js
theorem AllAt.get {Hs : List (List AObj)} {p : List AObj → Prop} : ∀ {js : List Nat}, AllAt Hs p js → ∀ j ∈ js, p (Hs.getD j [])
  | [], _, j, h => by cases h
  | k :: js, h, j, hj => by
    rcases List.mem_cons.1 hj with rfl | hj
    · exact h.1
    · exact h.2.get j hj

def DstIs (T : List AV) (d : Option Tmp) (v : AV) : Prop := match d with
  | some d => T[d]? = some v
  | none => True
def OGE (P : Program) (T : List AV) (d : Option Tmp) (H H' : List AObj) (f : FuncId) (args : List AV) : Prop := ∃ v, ARun P f args H (.ret v H') ∧ DstIs T d v
def OGX (P : Program) (T : List AV) (o : Oper) (H H' : List AObj) : Prop := aConcs T o = true ∧ ∃ r : Value, (∀ w, (execOp (aRho T) o).run P w = .ok (.value r) w) ∧ DstIs T o.dst (.ofV r) ∧ H' = H
def OGR (P : Program) (T : List AV) (o : Oper) (H H' : List AObj) : ARes → Prop
  | .next v H1 => DstIs T o.dst v ∧ H' = H1
  | .run => OGX P T o H H'
  | .enter f args => OGE P T o.dst H H' f args
  | .pan _ => False
def OGW (P : Program) (T : List AV) (o : Oper) (H H' : List AObj) : Option Bool → Prop
  | some true => OGR P T o H H' (aStep P T H o)
  | some false => DstIs T o.dst (.tup []) ∧ H' = H
  | none => False
def PGE (P : Program) (Q : AEx → List AV → List AObj → Prop) (H : List AObj) (f : FuncId) (args : List AV) : Prop := ∃ x H', ARun P f args H (.pan x H') ∧ ∀ tm', Q (.pan x) tm' H'
def PGR (P : Program) (Q : AEx → List AV → List AObj → Prop) (H : List AObj) : ARes → Prop
  | .pan x => ∀ tm', Q (.pan x) tm' H
  | .enter f args => PGE P Q H f args
  | _ => False
def PGW (P : Program) (T : List AV) (Q : AEx → List AV → List AObj → Prop) (H : List AObj) (o : Oper) : Option Bool → Prop
  | some true => PGR P Q H (aStep P T H o)
  | _ => False
theorem oge_intro {T : List AV} {d : Option Tmp} {H H' : List AObj} {f : FuncId} {args : List AV} {v : AV} (h : ARun P f args H (.ret v H')) (k : DstIs T d v) : OGE P T d H H' f args := ⟨v, h, k⟩
theorem pge_intro {H H' : List AObj} {f : FuncId} {args : List AV} {x : AV} (h : ARun P f args H (.pan x H')) (k : ∀ tm', Q (.pan x) tm' H') : PGE P Q H f args := ⟨x, H', h, k⟩
theorem ogx_intro {T : List AV} {o : Oper} {H H' : List AObj} {r : Value} (hc : aConcs T o = true) (h : ∀ w, (execOp (aRho T) o).run P w = .ok (.value r) w) (k : DstIs T o.dst (.ofV r)) (e : H' = H) : OGX P T o H H' := ⟨hc, r, h, k, e⟩
theorem DstIs.all {T : List AV} {d : Option Tmp} {v : AV} (h : DstIs T d v) : ∀ k, d = some k → T[k]? = some v := by
  intro k e; subst e; exact h
theorem opGood_of {l : List Oper} {T : List AV} {H H' : List AObj} {o : Oper} (h : OGW P T o H H' (aWanted l T o)) : OpGood P l T H o H' := by
  unfold OpGood
  cases hw : aWanted l T o with
  | none => rw [hw] at h; exact h
  | some b =>
    rw [hw] at h
    cases b with
    | false => exact ⟨h.1.all, h.2⟩
    | true =>
      simp only [OGW] at h ⊢
      cases hs : aStep P T H o with
      | next v H1 => rw [hs] at h; exact ⟨h.1.all, h.2⟩
      | run => rw [hs] at h; obtain ⟨h1, r, h2, h3, h4⟩ := h; exact ⟨h1, r, h2, h3.all, h4⟩
      | enter f args => rw [hs] at h; obtain ⟨v, h1, h2⟩ := h; exact ⟨v, h1, h2.all⟩
      | pan x => rw [hs] at h; exact h
theorem panGood_of {l : List Oper} {T : List AV} {H : List AObj} {o : Oper} (h : PGW P T Q H o (aWanted l T o)) : PanGood P l T Q H o := by
  unfold PanGood
  cases hw : aWanted l T o with
  | none => rw [hw] at h; exact h
  | some b =>
    rw [hw] at h
    cases b with
    | false => exact h
    | true =>
      simp only [PGW] at h ⊢
      cases hs : aStep P T H o with
      | enter f args => rw [hs] at h; exact h
      | pan x => rw [hs] at h; exact h
      | _ => rw [hs] at h; exact h

def GoodP (P : Program) (l : List Oper) (T : List AV) (Q : AEx → List AV → List AObj → Prop) (Hs : List (List AObj)) : List OpPlan → List Oper → Prop
  | .skip :: ps, _ :: rest => GoodP P l T Q Hs ps rest
  | .pan js :: ps, o :: rest => AllAt Hs (fun H => PGW P T Q H o (aWanted l T o)) js ∧ GoodP P l T Q Hs ps rest
  | .eff j :: ps, o :: rest => OGW P T o (Hs.getD j []) (Hs.getD (j + 1) []) (aWanted l T o) ∧ GoodP P l T Q Hs ps rest
  | .win js :: ps, o :: rest => AllAt Hs (fun H => OGW P T o H H (aWanted l T o)) js ∧ GoodP P l T Q Hs ps rest
  | _, _ => True

theorem GoodP.from {l : List Oper} {T : List AV} {Hs : List (List AObj)} {tab : List (List Nat)} {effs : List Nat} {wins : List (Nat × Nat)} {bad : List Nat} : ∀ {rest : List Oper} {i : Nat},
    GoodP P l T Q Hs (planFrom tab effs wins bad i rest.length) rest → GoodFrom P l T Hs effs wins tab bad Q i rest
  | [], i, _ => trivial
  | o :: rest, i, h => by
    simp only [List.length_cons, planFrom] at h
    unfold GoodFrom
    unfold planAt at h
    split at h
    · rename_i hb
      exact ⟨by rw [if_pos hb]; trivial, GoodP.from h⟩
    · rename_i hb
      rw [if_neg hb]
      split at h
      · rename_i hc
        rw [if_pos hc]
        refine ⟨?_, GoodP.from h.2⟩
        split
        · rename_i he
          rw [if_pos he] at h
          exact panGood_of h.1.1
        · rename_i he
          rw [if_neg he] at h
          exact fun j hj => panGood_of (h.1.get j hj)
      · rename_i hc
        rw [if_neg hc]
        split at h
        · rename_i he
          rw [if_pos he]
          exact ⟨opGood_of h.1, GoodP.from h.2⟩
        · rename_i he
          rw [if_neg he]
          exact ⟨fun j hj => opGood_of (h.1.get j hj), GoodP.from h.2⟩

-- The operations one after the other: what comes to stand in the slots, and which memory there is between.
def AWSeq (P : Program) (l : List Oper) (K : List AV → List AObj → List (List AObj) → Prop) : List OpPlan → List Oper → List AV → List AObj → List (List AObj) → Prop
  | .skip :: ps, o :: rest, tm, H, Hs => AWSeq P l K ps rest (aput tm o.dst .any) H (Hs ++ [H])
  | .pan _ :: ps, o :: rest, tm, H, Hs => AWSeq P l K ps rest (aput tm o.dst .any) H (Hs ++ [H])
  | .eff _ :: ps, o :: rest, tm, H, Hs => match aWanted l tm o with
    | some b => Guarded b (match aStep P tm H o with
      | .next v H' => AWSeq P l K ps rest (aput tm o.dst v) H' (Hs ++ [H'])
      | .enter f args => ∃ v H', ARun P f args H (.ret v H') ∧ (ARun P f args H (.ret v H') → AWSeq P l K ps rest (aput tm o.dst v) H' (Hs ++ [H']))
      | _ => False) (AWSeq P l K ps rest (aput tm o.dst (.tup [])) H (Hs ++ [H]))
    | none => False
  | .win _ :: ps, o :: rest, tm, H, Hs => match aWanted l tm o with
    | some b => Guarded b (match aStep P tm H o with
      | .next v _ => AWSeq P l K ps rest (aput tm o.dst v) H Hs
      | .enter f args => ∃ v, ARun P f args H (.ret v H) ∧ (ARun P f args H (.ret v H) → AWSeq P l K ps rest (aput tm o.dst v) H Hs)
      | .run => ∃ r : Value, (∀ w, (execOp (aRho tm) o).run P w = .ok (.value r) w) ∧ AWSeq P l K ps rest (aput tm o.dst (.ofV r)) H Hs
      | _ => False) (AWSeq P l K ps rest (aput tm o.dst (.tup [])) H Hs)
    | none => False
  | _, [], tm, H, Hs => K tm H Hs
  | _, _, _, _, _ => False

def AWSO (P : Program) (l : List Oper) (K : List AV → List AObj → List (List AObj) → Prop) (e : Bool) (ps : List OpPlan) (o : Oper) (rest : List Oper) (tm : List AV) (H : List AObj) (Hs : List (List AObj)) (v : AV) (H' : List AObj) : Prop :=
  AWSeq P l K ps rest (aput tm o.dst v) (if e then H' else H) (if e then Hs ++ [H'] else Hs)
def AWSR (P : Program) (l : List Oper) (K : List AV → List AObj → List (List AObj) → Prop) (e : Bool) (ps : List OpPlan) (o : Oper) (rest : List Oper) (tm : List AV) (H : List AObj) (Hs : List (List AObj)) : ARes → Prop
  | .next v H' => AWSO P l K e ps o rest tm H Hs v H'
  | .enter f args => if e = true then (∃ v H', ARun P f args H (.ret v H') ∧ (ARun P f args H (.ret v H') → AWSO P l K e ps o rest tm H Hs v H'))
      else ∃ v, ARun P f args H (.ret v H) ∧ (ARun P f args H (.ret v H) → AWSO P l K e ps o rest tm H Hs v H)
  | .run => e = false ∧ ∃ r : Value, (∀ w, (execOp (aRho tm) o).run P w = .ok (.value r) w) ∧ AWSO P l K e ps o rest tm H Hs (.ofV r) H
  | _ => False
def AWSG (P : Program) (l : List Oper) (K : List AV → List AObj → List (List AObj) → Prop) (e : Bool) (ps : List OpPlan) (o : Oper) (rest : List Oper) (tm : List AV) (H : List AObj) (Hs : List (List AObj)) : Option Bool → Prop
  | some b => Guarded b (AWSR P l K e ps o rest tm H Hs (aStep P tm H o)) (AWSO P l K e ps o rest tm H Hs (.tup []) H)
  | none => False
def AWSE (P : Program) (l : List Oper) (K : List AV → List AObj → List (List AObj) → Prop) (ps : List OpPlan) (o : Oper) (rest : List Oper) (tm : List AV) (H : List AObj) (Hs : List (List AObj)) (f : FuncId) (args : List AV) : Prop :=
  ∃ v H', ARun P f args H (.ret v H') ∧ (ARun P f args H (.ret v H') → AWSO P l K true ps o rest tm H Hs v H')
section
variable {l : List Oper} {K : List AV → List AObj → List (List AObj) → Prop} {ps : List OpPlan} {o : Oper} {rest : List Oper} {Hs : List (List AObj)} {e : Bool}
theorem aws_nil : AWSeq P l K [] [] tm H Hs = K tm H Hs := by simp only [AWSeq]
theorem aws_skip : AWSeq P l K (.skip :: ps) (o :: rest) tm H Hs = AWSeq P l K ps rest (aput tm o.dst .any) H (Hs ++ [H]) := by simp only [AWSeq]
theorem aws_pan {js : List Nat} : AWSeq P l K (.pan js :: ps) (o :: rest) tm H Hs = AWSeq P l K ps rest (aput tm o.dst .any) H (Hs ++ [H]) := by simp only [AWSeq]
theorem aws_eff {j : Nat} : AWSeq P l K (.eff j :: ps) (o :: rest) tm H Hs = AWSG P l K true ps o rest tm H Hs (aWanted l tm o) := by
  simp only [AWSeq, AWSG]
  cases aWanted l tm o with
  | none => rfl
  | some b => simp only [AWSR, AWSO, if_true]; cases aStep P tm H o <;> simp
theorem aws_win {js : List Nat} : AWSeq P l K (.win js :: ps) (o :: rest) tm H Hs = AWSG P l K false ps o rest tm H Hs (aWanted l tm o) := by
  simp only [AWSeq, AWSG]
  cases aWanted l tm o with
  | none => rfl
  | some b => simp only [AWSR, AWSO, if_true]; cases aStep P tm H o <;> simp
theorem awsg_true : AWSG P l K e ps o rest tm H Hs (some true) = AWSR P l K e ps o rest tm H Hs (aStep P tm H o) := guarded_true
theorem awsg_false : AWSG P l K e ps o rest tm H Hs (some false) = AWSO P l K e ps o rest tm H Hs (.tup []) H := guarded_false
theorem awsg_split {b : Bool} (h : b = true → AWSG P l K e ps o rest tm H Hs (some true)) (k : b = false → AWSG P l K e ps o rest tm H Hs (some false)) : AWSG P l K e ps o rest tm H Hs (some b) := by
  cases b
  · exact k rfl
  · exact h rfl
theorem awsr_next {v : AV} {H' : List AObj} : AWSR P l K e ps o rest tm H Hs (.next v H') = AWSO P l K e ps o rest tm H Hs v H' := rfl
theorem awsr_enter {f : FuncId} {args : List AV} : AWSR P l K true ps o rest tm H Hs (.enter f args) = AWSE P l K ps o rest tm H Hs f args := by simp [AWSR, AWSE]
def AWSF (P : Program) (l : List Oper) (K : List AV → List AObj → List (List AObj) → Prop) (ps : List OpPlan) (o : Oper) (rest : List Oper) (tm : List AV) (H : List AObj) (Hs : List (List AObj)) (f : FuncId) (args : List AV) : Prop :=
  ∃ v, ARun P f args H (.ret v H) ∧ (ARun P f args H (.ret v H) → AWSO P l K false ps o rest tm H Hs v H)
theorem awsr_enterF {f : FuncId} {args : List AV} : AWSR P l K false ps o rest tm H Hs (.enter f args) = AWSF P l K ps o rest tm H Hs f args := by simp [AWSR, AWSF]
theorem awsf_intro {f : FuncId} {args : List AV} {v : AV} (h : ARun P f args H (.ret v H)) (k : ARun P f args H (.ret v H) → AWSO P l K false ps o rest tm H Hs v H) : AWSF P l K ps o rest tm H Hs f args := ⟨v, h, k⟩
theorem awso_true {v : AV} {H' : List AObj} : AWSO P l K true ps o rest tm H Hs v H' = AWSeq P l K ps rest (aput tm o.dst v) H' (Hs ++ [H']) := by simp [AWSO]
theorem awso_false {v : AV} {H' : List AObj} : AWSO P l K false ps o rest tm H Hs v H' = AWSeq P l K ps rest (aput tm o.dst v) H Hs := by simp [AWSO]
theorem awse_intro {f : FuncId} {args : List AV} {v : AV} {H' : List AObj} (h : ARun P f args H (.ret v H')) (k : ARun P f args H (.ret v H') → AWSO P l K true ps o rest tm H Hs v H') : AWSE P l K ps o rest tm H Hs f args := ⟨v, H', h, k⟩
end

theorem aput_len (tm : List AV) (d : Option Tmp) (v : AV) : (aput tm d v).length = tm.length := by cases d <;> simp [aput]
theorem aput_ne (tm : List AV) (d : Option Tmp) (v : AV) (s : Nat) (h : d ≠ some s) : (aput tm d v)[s]? = tm[s]? := by
  cases d with
  | none => rfl
  | some d => simp only [aput]; rw [List.getElem?_set, if_neg (fun e => h (by rw [e]))]

theorem AWSeq.out {l : List Oper} {K : List AV → List AObj → List (List AObj) → Prop} : ∀ {rest : List Oper} {ps : List OpPlan} {tm : List AV} {H : List AObj} {Hs : List (List AObj)}, AWSeq P l K ps rest tm H Hs →
    ∃ T H' Hs', T.length = tm.length ∧ (∀ s, (∀ o ∈ rest, o.dst ≠ some s) → T[s]? = tm[s]?) ∧ K T H' Hs'
  | [], ps, tm, H, Hs, h => by
    refine ⟨tm, H, Hs, rfl, fun _ _ => rfl, ?_⟩
    cases ps with
    | nil => exact h
    | cons p ps => cases p <;> exact h
  | o :: rest, ps, tm, H, Hs, h => by
    have go : ∀ {v : AV} {ps : List OpPlan} {H1 : List AObj} {Hs1 : List (List AObj)}, AWSeq P l K ps rest (aput tm o.dst v) H1 Hs1 →
        ∃ T H' Hs', T.length = tm.length ∧ (∀ s, (∀ o' ∈ o :: rest, o'.dst ≠ some s) → T[s]? = tm[s]?) ∧ K T H' Hs' := by
      intro v ps H1 Hs1 h
      obtain ⟨T, H', Hs', h1, h2, h3⟩ := AWSeq.out h
      refine ⟨T, H', Hs', by rw [h1, aput_len], fun s hs => ?_, h3⟩
      rw [h2 s (fun o' ho' => hs o' (by simp [ho'])), aput_ne _ _ _ _ (hs o (by simp))]
    cases ps with
    | nil => exact h.elim
    | cons p ps =>
      cases p with
      | skip => exact go h
      | pan js => exact go h
      | eff j =>
        rw [aws_eff] at h
        cases hw : aWanted l tm o with
        | none => rw [hw] at h; exact h.elim
        | some b =>
          rw [hw] at h
          cases b with
          | false => rw [awsg_false, awso_true] at h; exact go h
          | true =>
            rw [awsg_true] at h
            cases hs : aStep P tm H o with
            | next v H' => rw [hs, awsr_next, awso_true] at h; exact go h
            | pan x => rw [hs] at h; exact h.elim
            | enter f args =>
              rw [hs, awsr_enter] at h
              obtain ⟨v, H', h1, h2⟩ := h
              have h3 := h2 h1
              rw [awso_true] at h3
              exact go h3
            | run => rw [hs] at h; exact absurd h.1 (by simp)
      | win js =>
        rw [aws_win] at h
        cases hw : aWanted l tm o with
        | none => rw [hw] at h; exact h.elim
        | some b =>
          rw [hw] at h
          cases b with
          | false => rw [awsg_false, awso_false] at h; exact go h
          | true =>
            rw [awsg_true] at h
            cases hs : aStep P tm H o with
            | next v H' => rw [hs, awsr_next, awso_false] at h; exact go h
            | pan x => rw [hs] at h; exact h.elim
            | enter f args =>
              rw [hs, awsr_enterF] at h
              obtain ⟨v, h1, h2⟩ := h
              have h3 := h2 h1
              rw [awso_false] at h3
              exact go h3
            | run =>
              rw [hs] at h
              obtain ⟨_, r, _, h2⟩ := h
              rw [awso_false] at h2
              exact go h2

/-- A region that draws its order, one after the other. -/
theorem awp_drawn {id : Nat} {l : List Oper} (effs bad : List Nat) (plan : List OpPlan) (ne : Nat) (hm : P.follows .mixedOrders = true)
    (hok : (drawOk l (ancTab l) effs (winsOf l effs) && bad.all (· < l.length) && decide (planOf l effs bad = plan) && effs.length == ne) = true)
    (h : AWSeq P l (fun T H' Hs => Hs.getD 0 [] = H ∧ GoodP P l T Q Hs plan l ∧ (bad = [] → Q .normal T (Hs.getD ne []))) plan l tm H [H]) : AWP P H0 (.region id l.toArray true) Q tm H := by
  simp only [Bool.and_eq_true, List.all_eq_true, decide_eq_true_eq, beq_iff_eq] at hok
  obtain ⟨⟨⟨hok, hbad⟩, rfl⟩, rfl⟩ := hok
  obtain ⟨T, H', Hs, h1, h2, h3, h4, h5⟩ := h.out
  exact awp_drawB effs bad _ Hs hm hok hbad h1 h2 h3 (GoodP.from h4) h5

theorem awp_drawn_k {id : Nat} {l : List Oper} (effs bad : List Nat) (plan : List OpPlan) (ne : Nat) (hm : P.follows .mixedOrders = true)
    (hok : (drawOk l (ancTab l) effs (winsOf l effs) && bad.all (· < l.length) && decide (planOf l effs bad = plan) && effs.length == ne) = true)
    (h : ∀ (Kn : List AV → List AObj → Prop) (Kp : AV → List AV → List AObj → Prop), (∀ tm H, Q .normal tm H → Kn tm H) → (∀ x tm H, Q (.pan x) tm H → Kp x tm H) →
      AWSeq P l (fun T H' Hs => Hs.getD 0 [] = H ∧ GoodP P l T (AEx.two Kn Kp) Hs plan l ∧ (bad = [] → Kn T (Hs.getD ne []))) plan l tm H [H]) : AWP P H0 (.region id l.toArray true) Q tm H := by
  refine awp_mono (awp_drawn (Q := AEx.two (Q .normal) (fun x => Q (.pan x))) effs bad plan ne hm hok (h (Q .normal) (fun x => Q (.pan x)) (fun _ _ h => h) (fun _ _ _ h => h))) ?_
  intro e tm H hq
  cases e <;> first | exact hq | exact hq.elim
end
end Go.Proofs.Ytkchihkmhojdnaa.AL

/- Deferred calls that recover. -/
set_option linter.unusedVariables false
set_option linter.unusedSimpArgs false
namespace Go.Proofs.Ytkchihkmhojdnaa.AL

/-- A call that waits. -/
structure ADef where
  f : FuncId
  args : List AV

def DRel (w : World) (B : BMap) (S : Nat → Prop) (H : List AObj) (ad : ADef) (d : Deferred) : Prop :=
  ∃ (cs vs : List Value), d = { target := .fn (.func ad.f) cs.toArray, args := vs.toArray } ∧ ARelL w B S H ad.args (vs ++ cs)
def DRels (w : World) (B : BMap) (S : Nat → Prop) (H : List AObj) : List ADef → List Deferred → Prop
  | [], [] => True
  | x :: xs, d :: ds => DRel w B S H x d ∧ DRels w B S H xs ds
  | _, _ => False

/-- How the frame below a deferred call stands: it returns, or it panics with a value. -/
def MRel (w : World) (B : BMap) (S : Nat → Prop) (H : List AObj) : Option AV → FrameMode → Prop
  | none, m => m = .returning
  | some x, m => ∃ v, m = .panicking [{ v := v, recovered := false }] ∧ ARel w B S H x v

/-- A deferred call: it returns; a panic is recovered. -/
structure ARunD (P : Program) (f : FuncId) (args : List AV) (H : List AObj) (u : Option AV) (H' : List AObj) : Prop where
  call : ∀ xs w, (callFunc f xs).run P w = .ok (.enter f xs) w
  run : ∀ w B S vs mode, HRel w B S H → ARelL w B S H args vs → MRel w B S H u mode → CallsD P f vs.toArray mode w fun e u' w' =>
    (∃ x, e = .returned x) ∧ settle u' = .returning ∧ ∃ B' S', Step w B S H w' B' S' H' ∧ HRel w' B' S' H'

def LiftD (w0 : World) (B0 : BMap) (S0 : Nat → Prop) (H0 : List AObj) (Q : AEx → List AV → List AObj → List ADef → Prop) : Exit → Act → World → Prop :=
  fun e a w => ∃ x tm H B S D AD, Q x tm H AD ∧ Sim w0 B0 S0 H0 D tm H a w B S ∧ DRels w B S H AD D ∧ XRel w B S H x e

def AWPD (P : Program) (H0 : List AObj) (c : Code) (Q : AEx → List AV → List AObj → List ADef → Prop) (tm : List AV) (H : List AObj) (AD : List ADef) : Prop :=
  ∀ w0 B0 S0 D a w B S, Sim w0 B0 S0 H0 D tm H a w B S → DRels w B S H AD D → c.wp P (LiftD w0 B0 S0 H0 Q) a w

section
variable {P : Program} {w0 : World} {B0 : BMap} {S0 : Nat → Prop} {H0 : List AObj} {D : List Deferred} {tm : List AV} {H : List AObj} {a : Act} {w : World} {B : BMap} {S : Nat → Prop} {AD : List ADef}

theorem DRels.mono {w' : World} {B' : BMap} {S' : Nat → Prop} {H' : List AObj} (st : Step w B S H w' B' S' H') : ∀ {xs : List ADef} {ds : List Deferred}, DRels w B S H xs ds → DRels w' B' S' H' xs ds
  | [], [], _ => trivial
  | [], _ :: _, h => h.elim
  | _ :: _, [], h => h.elim
  | x :: xs, d :: ds, h => by
    obtain ⟨⟨cs, vs, h1, h2⟩, h3⟩ := h
    exact ⟨⟨cs, vs, h1, h2.mono st⟩, DRels.mono st h3⟩

variable {Q : AEx → List AV → List AObj → List ADef → Prop}

/-- Code without a defer. -/
theorem awpd_of {c : Code} {Q' : AEx → List AV → List AObj → Prop} (h : AWP P H c Q' tm H) (hq : ∀ x tm H, Q' x tm H → Q x tm H AD) : AWPD P H0 c Q tm H AD := by
  intro w0 B0 S0 D a w B S s hd
  have s1 : Sim w B S H D tm H a w B S := ⟨s.hrel, Step.refl _ _ _ _, s.hrel, s.tmps, s.defers⟩
  refine wp_mono (h w B S D a w B S s1) ?_
  rintro e a' w' ⟨x, tm', H', B', S', hq', s', hx⟩
  exact ⟨x, tm', H', B', S', D, AD, hq _ _ _ hq', ⟨s.entry, s.step.trans s'.step, s'.hrel, s'.tmps, s'.defers⟩, hd.mono s'.step, hx⟩

def AEx.thnD (next : List AV → List AObj → List ADef → Prop) (Q : AEx → List AV → List AObj → List ADef → Prop) : AEx → List AV → List AObj → List ADef → Prop
  | .normal, tm, H, AD => next tm H AD
  | e, tm, H, AD => Q e tm H AD

theorem awpd_seq {x y : Code} (h : AWPD P H0 x (AEx.thnD (AWPD P H0 y Q) Q) tm H AD) : AWPD P H0 (.seq x y) Q tm H AD := by
  intro w0 B0 S0 D a w B S s hd
  refine wp_seq (wp_mono (h w0 B0 S0 D a w B S s hd) ?_)
  rintro e a' w' ⟨x, tm', H', B', S', D', AD', hq, s', hd', hx⟩
  cases x <;> cases e <;> simp only [XRel] at hx <;> try (exact hx.elim)
  case normal.normal => exact hq w0 B0 S0 D' a' w' B' S' s' hd'
  case exit.exit => exact ⟨_, _, _, _, _, _, _, hq, s', hd', hx⟩
  case goto.goto => exact ⟨_, _, _, _, _, _, _, hq, s', hd', hx⟩
  case ret.ret => exact ⟨.ret, _, _, _, _, _, _, hq, s', hd', trivial⟩
  case pan.panic => exact ⟨_, _, _, _, _, _, _, hq, s', hd', hx⟩

theorem awpd_cond {c : Operand} {x y : Code} {b : Bool} (hc : aev tm c = .pv (.sc (.bool b))) (h1 : b = true → AWPD P H0 x Q tm H AD) (h2 : b = false → AWPD P H0 y Q tm H AD) :
    AWPD P H0 (.cond c x y) Q tm H AD := by
  intro w0 B0 S0 D a w B S s hd
  have hv := s.ev c
  rw [hc] at hv
  exact wp_cond_split (t := b) (sc_eq hv) (fun hb => h1 hb w0 B0 S0 D a w B S s hd) (fun hb => h2 hb w0 B0 S0 D a w B S s hd)

theorem awpd_ret (h : Q .ret tm H AD) : AWPD P H0 .ret Q tm H AD :=
  fun w0 B0 S0 D a w B S s hd => wp_ret ⟨.ret, tm, H, B, S, D, AD, h, s, hd, trivial⟩
theorem awpd_skip (h : Q .normal tm H AD) : AWPD P H0 .skip Q tm H AD :=
  fun w0 B0 S0 D a w B S s hd => wp_skip ⟨.normal, tm, H, B, S, D, AD, h, s, hd, trivial⟩

/-- A region of plain operations that ends in a defer. -/
def AWLD (P : Program) (ops : List Oper) (K : List AV → List AObj → ADef → Prop) : List Oper → List AV → List AObj → Prop
  | [], _, _ => False
  | o :: rest, tm, H =>
    match o.guard with
    | some _ => False
    | none => match o.op with
      | .defer c => rest = [] ∧ (match c.callee with
        | .value f => match aev tm f with
          | .fn (.func g) fi ca => K (aput tm o.dst (.tup [])) H ⟨g, fi ++ c.args.toList.map (aev tm) ++ ca⟩
          | _ => False
        | _ => False)
      | _ => match aStep P tm H o with
        | .next v H' => AWLD P ops K rest (aput tm o.dst v) H'
        | _ => False

theorem awld_sound {ops : List Oper} {K : List AV → List AObj → ADef → Prop} {R : Exit → Act → World → Prop} : ∀ (l : List Oper) (tm : List AV) (H : List AObj) (a : Act) (w : World) (B : BMap) (S : Nat → Prop),
    AWLD P ops K l tm H → Sim w0 B0 S0 H0 D tm H a w B S →
    (∀ tm' H' ad a' w' B' S' d, K tm' H' ad → Sim w0 B0 S0 H0 (d :: D) tm' H' a' w' B' S' → DRel w' B' S' H' ad d → Step w B S H w' B' S' H' → R .normal a' w') →
    wpList P ops.toArray R l a w
  | [], tm, H, a, w, B, S, h, s, hR => h.elim
  | o :: rest, tm, H, a, w, B, S, h, s, hR => by
    have ih := awld_sound (ops := ops) (K := K) (R := R) rest
    unfold AWLD at h
    unfold wpList
    split at h
    · exact h.elim
    · rename_i hg
      have hw : Region.wanted o (yielded ops.toArray a.tmps) = true := by simp [Region.wanted, hg]
      rw [hw]
      simp only [if_true]
      refine .inl ?_
      split at h
      · rename_i c hop
        obtain ⟨rfl, h⟩ := h
        split at h
        · rename_i f hcal
          split at h
          · rename_i g fi ca hv
            have hge := s.ev f
            rw [hv] at hge
            generalize hz : a.eval f = z at hge
            cases hge with
            | @fn _ _ _ fs cs hl1 hl2 h1 h2 =>
              have hargs := map_list s.ev c.args.toList
              unfold Oper.wp
              have hrun : (execOp a.eval o).run P w = .ok (.defer { target := .fn (.func g) cs.toArray, args := (fs ++ c.args.toList.map a.eval).toArray }) w := by
                have hfin : fs.toArray ++ c.args.map a.eval = (fs ++ c.args.toList.map a.eval).toArray := by apply Array.ext'; simp
                simp only [execOp, hop, resolve, hcal, hz, Deferred.ofValue, Sem.run_bind, Sem.run_pure, Result.andThen_ok, hfin]
              rw [hrun]
              simp only [Oper.upon]
              refine hR _ _ _ _ _ B S _ h ?_ ⟨cs, fs ++ c.args.toList.map a.eval, rfl, ?_⟩ (Step.refl _ _ _ _)
              · have s2 : Sim w0 B0 S0 H0 ({ target := .fn (.func g) cs.toArray, args := (fs ++ c.args.toList.map a.eval).toArray } :: D) tm H { a with defers := { target := .fn (.func g) cs.toArray, args := (fs ++ c.args.toList.map a.eval).toArray } :: a.defers } w B S :=
                  ⟨s.entry, s.step, s.hrel, s.tmps, by rw [← s.defers]⟩
                exact s2.put o.dst undef_rel
              · exact ARelL.append (ARelL.append ⟨hl1, h1⟩ hargs) ⟨hl2, h2⟩
          · exact h.elim
        · exact h.elim
      · split at h
        · rename_i v H' hs
          obtain ⟨r, w', B', hrun, st, hr, hv⟩ := step_next s.hrel s.ev hs
          have s' := (s.mono st hr).put o.dst hv
          have hR' : ∀ tm' H'' ad a' w'' B'' S'' d, K tm' H'' ad → Sim w0 B0 S0 H0 (d :: D) tm' H'' a' w'' B'' S'' → DRel w'' B'' S'' H'' ad d → Step w' B' S H' w'' B'' S'' H'' → R .normal a' w'' :=
            fun tm' H'' ad a' w'' B'' S'' d hk hs hd hst => hR _ _ _ _ _ _ _ _ hk hs hd (st.trans hst)
          unfold Oper.wp
          rcases hrun with hrun | ⟨hrun, rfl⟩
          · rw [hrun]; exact ih _ _ _ _ _ _ h s' hR'
          · rw [hrun]; exact ih _ _ _ _ _ _ h s' hR'
        · exact h.elim

theorem awpd_defer {id : Nat} {l : List Oper} (h : AWLD P l (fun tm' H' ad => Q .normal tm' H' (ad :: AD)) l tm H) : AWPD P H0 (.region id l.toArray false) Q tm H AD := by
  intro w0 B0 S0 D a w B S s hd
  refine wp_region_lit (awld_sound l tm H a w B S h s ?_)
  intro tm' H' ad a' w' B' S' d hk s' hdr st
  exact ⟨.normal, tm', H', B', S', d :: D, ad :: AD, hk, s', ⟨hdr, hd.mono st⟩, trivial⟩

/-- The end of a function with at most one deferred call. -/
def RetD (P : Program) (rs : List ResultVar) (H0 : List AObj) (out : AOut) : AEx → List AV → List AObj → List ADef → Prop
  | e, tm, H, [] => RetQ P rs H0 out e tm H
  | .normal, tm, H, [d] | .ret, tm, H, [d] => ∃ H1, ARunD P d.f d.args H none H1 ∧ RetQ P rs H0 out .ret tm H1
  | .pan x, tm, H, [d] => ∃ H1, ARunD P d.f d.args H (some x) H1 ∧ RetQ P rs H0 out .ret tm H1
  | _, _, _, _ => False

theorem ARun.introD {f : FuncId} {fn : Func} {c : Code} {args : List AV} {out : AOut} {n : Nat} {rs : List ResultVar} (hf : P.funcs[f]? = some fn) (hb : fn.body = some c)
    (hcall : ∀ xs w, (callFunc f xs).run P w = .ok (.enter f xs) w) (hn : fn.ntmps = n) (hrs : fn.results = rs.toArray)
    (h : AWPD P H0 c (RetD P rs H0 out) (args ++ List.replicate (n - args.length) (.tup [])) H0 []) : ARun P f args H0 out := by
  refine ⟨hcall, fun w B S vs hr hargs => ?_⟩
  refine calls_of_wp_defers hf hb ?_
  have hl := hargs.1
  have s : Sim w B S H0 [] (args ++ List.replicate (n - args.length) (.tup [])) H0 { tmps := vs.toArray ++ Array.replicate (fn.ntmps - vs.toArray.size) undef, defers := [] } w B S := by
    refine ⟨hr, Step.refl _ _ _ _, hr, ?_, rfl⟩
    have : (vs.toArray ++ Array.replicate (fn.ntmps - vs.toArray.size) undef).toList = vs ++ List.replicate (n - args.length) undef := by
      simp [hn, hl]
    rw [this]
    refine hargs.append ⟨by simp, fun j c v hc hv => ?_⟩
    have h1 := (List.mem_replicate.1 (List.mem_of_getElem? hc)).2
    have h2 := (List.mem_replicate.1 (List.mem_of_getElem? hv)).2
    subst h1; subst h2
    exact undef_rel
  refine wp_mono (h w B S [] _ w B S s trivial) ?_
  have ret : ∀ tm H a' w' B' S' D, Sim w B S H0 D tm H a' w' B' S' → RetQ P rs H0 out .ret tm H →
      ∃ v, (results fn a'.tmps).run P w' = .ok v w' ∧ ∃ B'' S'', Step w B S H0 w' B'' S'' out.H ∧ HRel w' B'' S'' out.H ∧ ERel w' B'' S'' out (.returned v) := by
    rintro tm H a' w' B' S' D s' ⟨vs', hvs, v2, ho, m, k, hd, hH2, hv2⟩
    obtain ⟨x, hx1, hx2⟩ := results_rel (P := P) (fn := fn) s' (by rw [hrs]; exact hvs)
    have s2 := s'.dropped k hd
    refine ⟨x, hx1, B', _, by rw [hH2]; exact s2.step, by rw [hH2]; exact s2.hrel, ?_⟩
    rw [ho]
    simp only [ERel]
    have h3 := low_rel (n := k) s'.hrel hd.2.1 hx2
    rw [hH2]
    exact hv2 _ _ _ _ _ h3
  have leave : ∀ tm H a' w' B' S' d D u mode H1, Sim w B S H0 (D :: []) tm H a' w' B' S' → DRel w' B' S' H d D → MRel w' B' S' H u mode → mode ≠ .run → ARunD P d.f d.args H u H1 → RetQ P rs H0 out .ret tm H1 →
      Leaves P fn a'.tmps (fun e w' => ∃ B' S', Step w B S H0 w' B' S' out.H ∧ HRel w' B' S' out.H ∧ ERel w' B' S' out e) a'.defers mode w' := by
    intro tm H a' w' B' S' d D u mode H1 s' hd hm hnr hrun hq
    obtain ⟨cs, vs', rfl, hrel⟩ := hd
    rw [s'.defers]
    refine leaves_cons (f := d.f) (args := vs'.toArray ++ cs.toArray) hnr (by simp only [invoke]; exact hrun.call _ _) ?_
    have := hrun.run w' B' S' (vs' ++ cs) mode s'.hrel hrel hm
    have hfin : vs'.toArray ++ cs.toArray = (vs' ++ cs).toArray := by simp
    rw [hfin]
    refine this.mono ?_
    rintro e u' w'' ⟨⟨x, rfl⟩, hset, B'', S'', st, hr''⟩
    simp only [Leaves, hset]
    have s3 : Sim w B S H0 [{ target := .fn (.func d.f) cs.toArray, args := vs'.toArray }] tm H1 a' w'' B'' S'' := s'.mono st hr''
    exact ret tm H1 a' w'' B'' S'' _ s3 hq
  rintro e a' w' ⟨x, tm', H', B', S', D, AD, hq, s', hd, hx⟩
  cases AD with
  | nil =>
    have hD : D = [] := by cases D with
      | nil => rfl
      | cons => exact hd.elim
    subst hD
    cases x <;> cases e <;> simp only [XRel] at hx <;> try (exact hx.elim)
    case normal.normal => simp only [bodyPostD, s'.defers]; exact ret _ _ _ _ _ _ _ s' hq
    case exit.exit => exact hq.elim
    case goto.goto => exact hq.elim
    case ret.ret => simp only [bodyPostD, s'.defers]; exact ret _ _ _ _ _ _ _ s' hq
    case pan.panic =>
      obtain ⟨v, rfl, hv⟩ := hx
      obtain ⟨v2, ho, m, k, hdr, hH2, hv2⟩ := hq
      have s2 := s'.dropped k hdr
      simp only [bodyPostD, s'.defers, Leaves]
      refine ⟨B', _, by rw [hH2]; exact s2.step, by rw [hH2]; exact s2.hrel, ?_⟩
      rw [ho]
      simp only [ERel]
      refine ⟨v, rfl, ?_⟩
      have h3 := low_rel (n := k) s'.hrel hdr.2.1 hv
      rw [hH2]
      exact hv2 _ _ _ _ _ h3
  | cons d ds =>
    cases D with
    | nil => exact hd.elim
    | cons D1 Ds =>
      obtain ⟨hd1, hd2⟩ := hd
      cases ds with
      | cons => cases x <;> exact hq.elim
      | nil =>
        have hDs : Ds = [] := by cases Ds with
          | nil => rfl
          | cons => exact hd2.elim
        subst hDs
        cases x <;> cases e <;> simp only [XRel] at hx <;> try (exact hx.elim)
        case normal.normal =>
          obtain ⟨H1, h1, h2⟩ := hq
          exact leave _ _ _ _ _ _ _ _ none .returning H1 s' hd1 rfl (by simp) h1 h2
        case exit.exit => exact hq.elim
        case goto.goto => exact hq.elim
        case ret.ret =>
          obtain ⟨H1, h1, h2⟩ := hq
          exact leave _ _ _ _ _ _ _ _ none .returning H1 s' hd1 rfl (by simp) h1 h2
        case pan.panic =>
          obtain ⟨v, rfl, hv⟩ := hx
          obtain ⟨H1, h1, h2⟩ := hq
          exact leave _ _ _ _ _ _ _ _ (some _) (.panicking [{ v := v, recovered := false }]) H1 s' hd1 ⟨v, rfl, hv⟩ (by simp) h1 h2
end
end Go.Proofs.Ytkchihkmhojdnaa.AL

/- Deferred functions that recover: how one proves what they do. -/
set_option linter.unusedVariables false
set_option linter.unusedSimpArgs false
namespace Go.Proofs.Ytkchihkmhojdnaa.AL

/-- How the frame below stands, told by abstract values. -/
inductive UM where
  | none
  | pan (x : AV)
  | recd (x : AV)
def UM.of : Option AV → UM
  | .none => .none
  | some x => .pan x
def URel (w : World) (B : BMap) (S : Nat → Prop) (H : List AObj) : UM → FrameMode → Prop
  | .none, m => m = .returning
  | .pan x, m => ∃ v, m = .panicking [{ v := v, recovered := false }] ∧ ARel w B S H x v
  | .recd x, m => ∃ v, m = .panicking [{ v := v, recovered := true }] ∧ ARel w B S H x v

def LiftS (w0 : World) (B0 : BMap) (S0 : Nat → Prop) (H0 : List AObj) (c0 : Frame) (cs : List Frame) (Q : AEx → List AV → List AObj → UM → Prop) : Exit → Act → List Frame → World → Prop :=
  fun e a cs' w => ∃ x tm H B S u mode, Q x tm H u ∧ Sim w0 B0 S0 H0 [] tm H a w B S ∧ URel w B S H u mode ∧ cs' = { c0 with mode := mode } :: cs ∧ XRel w B S H x e

def AWPS (P : Program) (H0 : List AObj) (c : Code) (Q : AEx → List AV → List AObj → UM → Prop) (tm : List AV) (H : List AObj) (u : UM) : Prop :=
  ∀ w0 B0 S0 a w B S c0 cs mode, Sim w0 B0 S0 H0 [] tm H a w B S → URel w B S H u mode → c.wpS P (LiftS w0 B0 S0 H0 c0 cs Q) a ({ c0 with mode := mode } :: cs) w

section
variable {P : Program} {w0 : World} {B0 : BMap} {S0 : Nat → Prop} {H0 : List AObj} {D : List Deferred} {tm : List AV} {H : List AObj} {a : Act} {w : World} {B : BMap} {S : Nat → Prop} {u : UM}
  {Q : AEx → List AV → List AObj → UM → Prop}

theorem URel.mono {w' : World} {B' : BMap} {S' : Nat → Prop} {H' : List AObj} (st : Step w B S H w' B' S' H') {m : FrameMode} (h : URel w B S H u m) : URel w' B' S' H' u m := by
  cases u with
  | none => exact h
  | pan x => obtain ⟨v, h1, h2⟩ := h; exact ⟨v, h1, h2.mono st⟩
  | recd x => obtain ⟨v, h1, h2⟩ := h; exact ⟨v, h1, h2.mono st⟩

theorem wpS_mono {c : Code} {Q Q' : Exit → Act → List Frame → World → Prop} {cs : List Frame} (h : c.wpS P Q a cs w) (hq : ∀ e a cs w, Q e a cs w → Q' e a cs w) : c.wpS P Q' a cs w :=
  fun b k hb hr => let ⟨e, a', cs', w', q, r⟩ := h b k hb hr; ⟨e, a', cs', w', hq _ _ _ _ q, r⟩

theorem awps_of {c : Code} {Q' : AEx → List AV → List AObj → Prop} (h : AWP P H c Q' tm H) (hq : ∀ x tm H, Q' x tm H → Q x tm H u) : AWPS P H0 c Q tm H u := by
  intro w0 B0 S0 a w B S c0 cs mode s hu
  refine wpS_of_wp (wp_mono (h w B S [] a w B S ⟨s.hrel, Step.refl _ _ _ _, s.hrel, s.tmps, s.defers⟩) ?_)
  rintro e a' w' ⟨x, tm', H', B', S', hq', s', hx⟩
  exact ⟨x, tm', H', B', S', u, mode, hq _ _ _ hq', ⟨s.entry, s.step.trans s'.step, s'.hrel, s'.tmps, s'.defers⟩, hu.mono s'.step, rfl, hx⟩

def AEx.thnS (next : List AV → List AObj → UM → Prop) (Q : AEx → List AV → List AObj → UM → Prop) : AEx → List AV → List AObj → UM → Prop
  | .normal, tm, H, u => next tm H u
  | e, tm, H, u => Q e tm H u

theorem awps_seq {x y : Code} (h : AWPS P H0 x (AEx.thnS (AWPS P H0 y Q) Q) tm H u) : AWPS P H0 (.seq x y) Q tm H u := by
  intro w0 B0 S0 a w B S c0 cs mode s hu
  refine wpS_seq (wpS_mono (h w0 B0 S0 a w B S c0 cs mode s hu) ?_)
  rintro e a' cs' w' ⟨x, tm', H', B', S', u', mode', hq, s', hu', rfl, hx⟩
  cases x <;> cases e <;> simp only [XRel] at hx <;> try (exact hx.elim)
  case normal.normal => exact hq w0 B0 S0 a' w' B' S' c0 cs mode' s' hu'
  case exit.exit => exact ⟨_, _, _, _, _, _, _, hq, s', hu', rfl, hx⟩
  case goto.goto => exact ⟨_, _, _, _, _, _, _, hq, s', hu', rfl, hx⟩
  case ret.ret => exact ⟨.ret, _, _, _, _, _, _, hq, s', hu', rfl, trivial⟩
  case pan.panic => exact ⟨_, _, _, _, _, _, _, hq, s', hu', rfl, hx⟩

theorem awps_cond {c : Operand} {x y : Code} {b : Bool} (hc : aev tm c = .pv (.sc (.bool b))) (h1 : b = true → AWPS P H0 x Q tm H u) (h2 : b = false → AWPS P H0 y Q tm H u) :
    AWPS P H0 (.cond c x y) Q tm H u := by
  intro w0 B0 S0 a w B S c0 cs mode s hu
  have hv := s.ev c
  rw [hc] at hv
  refine wpS_cond (t := b) (sc_eq hv) ?_
  cases b with
  | true => exact h1 rfl w0 B0 S0 a w B S c0 cs mode s hu
  | false => exact h2 rfl w0 B0 S0 a w B S c0 cs mode s hu

theorem awps_skip (h : Q .normal tm H u) : AWPS P H0 .skip Q tm H u := by
  refine awps_of (Q' := fun x tm' H' => x = .normal ∧ tm' = tm ∧ H' = H) (awp_skip ⟨rfl, rfl, rfl⟩) ?_
  rintro x tm' H' ⟨rfl, rfl, rfl⟩; exact h
theorem awps_ret (h : Q .ret tm H u) : AWPS P H0 .ret Q tm H u := by
  refine awps_of (Q' := fun x tm' H' => x = .ret ∧ tm' = tm ∧ H' = H) (awp_ret ⟨rfl, rfl, rfl⟩) ?_
  rintro x tm' H' ⟨rfl, rfl, rfl⟩; exact h

def isRecover : Op → Bool
  | .call c => match c.callee with
    | .builtin .recover => true
    | _ => false
  | _ => false

/-- A region that may recover. -/
def AWLS (P : Program) (K : List AV → List AObj → UM → Prop) : List Oper → List AV → List AObj → UM → Prop
  | [], tm, H, u => K tm H u
  | o :: rest, tm, H, u =>
    match o.guard with
    | some _ => False
    | none => if isRecover o.op then match u with
        | .pan x => AWLS P K rest (aput tm o.dst x) H (.recd x)
        | u => AWLS P K rest (aput tm o.dst (.sc .nilIface)) H u
      else match aStep P tm H o with
        | .next v H' => AWLS P K rest (aput tm o.dst v) H' u
        | .run => (aConcs tm o && notSelect o.op) = true ∧ ∃ r : Value, (∀ w, (execOp (aRho tm) o).run P w = .ok (.value r) w) ∧ AWLS P K rest (aput tm o.dst (.ofV r)) H u
        | _ => False

theorem awls_sound {ops : Array Oper} {K : List AV → List AObj → UM → Prop} {c0 : Frame} {cs : List Frame} {R : Exit → Act → List Frame → World → Prop} : ∀ (l : List Oper) (k : Nat) (tm : List AV) (H : List AObj) (u : UM) (a : Act) (w : World) (B : BMap) (S : Nat → Prop) (mode : FrameMode),
    (∀ j, l[j]? = ops[k + j]?) → AWLS P K l tm H u → Sim w0 B0 S0 H0 [] tm H a w B S → URel w B S H u mode →
    (∀ tm' H' u' a' w' B' S' mode', K tm' H' u' → Sim w0 B0 S0 H0 [] tm' H' a' w' B' S' → URel w' B' S' H' u' mode' → R .normal a' ({ c0 with mode := mode' } :: cs) w') →
    wpOpsS P ops R (List.range' k l.length) a ({ c0 with mode := mode } :: cs) w
  | [], k, tm, H, u, a, w, B, S, mode, hl, h, s, hu, hR => by
    simp only [List.length_nil, List.range'_zero, wpOpsS]
    exact hR _ _ _ _ _ _ _ _ h s hu
  | o :: rest, k, tm, H, u, a, w, B, S, mode, hl, h, s, hu, hR => by
    have ih := awls_sound (ops := ops) (K := K) (c0 := c0) (cs := cs) (R := R) rest (k + 1)
    have hl' : ∀ j, rest[j]? = ops[k + 1 + j]? := fun j => by have := hl (j + 1); simpa [Nat.add_assoc, Nat.add_comm 1 j] using this
    have h0 : ops[k]? = some o := by simpa using (hl 0).symm
    unfold AWLS at h
    simp only [List.length_cons, List.range'_succ, wpOpsS, h0]
    split at h
    · exact h.elim
    · rename_i hg
      have hw : Region.wanted o (yielded ops a.tmps) = true := by simp [Region.wanted, hg]
      simp only [hw, if_true]
      by_cases hrec : isRecover o.op = true
      · rw [if_pos hrec] at h
        have hrun : (execOp a.eval o).run P w = .ok .recover w := by
          unfold isRecover at hrec
          split at hrec
          · rename_i c hc
            split at hrec
            · rename_i hb; simp [execOp, hc, resolve, hb, builtin, invoke]
            · cases hrec
          · cases hrec
        rw [hrun]
        simp only
        cases u with
        | pan x =>
          simp only at h
          obtain ⟨v, rfl, hv⟩ := hu
          simp only [recoverD]
          exact ih _ _ _ _ _ _ _ _ hl' h (s.put o.dst hv) ⟨v, rfl, hv⟩ hR
        | none =>
          simp only at h
          obtain rfl := hu
          simp only [recoverD]
          exact ih _ _ _ _ _ _ _ _ hl' h (s.put o.dst (.sc rfl)) rfl hR
        | recd x =>
          simp only at h
          obtain ⟨v, rfl, hv⟩ := hu
          simp only [recoverD]
          exact ih _ _ _ _ _ _ _ _ hl' h (s.put o.dst (.sc rfl)) ⟨v, rfl, hv⟩ hR
      · rw [if_neg hrec] at h
        split at h
        · rename_i v H' hs
          obtain ⟨r, w', B', hrun, st, hr, hv⟩ := step_next s.hrel s.ev hs
          have s' := (s.mono st hr).put o.dst hv
          rcases hrun with hrun | ⟨hrun, rfl⟩
          · rw [hrun]; exact ih _ _ _ _ _ _ _ _ hl' h s' (hu.mono st) hR
          · rw [hrun]; exact ih _ _ _ _ _ _ _ _ hl' h s' (hu.mono st) hR
        · rename_i hs
          obtain ⟨hc, r, hrun, h⟩ := h
          simp only [Bool.and_eq_true] at hc
          rw [run_eq s hc.1 hc.2, hrun w]
          exact ih _ _ _ _ _ _ _ _ hl' h (s.put o.dst (.ofV r)) hu hR
        · exact h.elim

theorem awps_region {id : Nat} {l : List Oper} (h : AWLS P (fun tm H u => Q .normal tm H u) l tm H u) : AWPS P H0 (.region id l.toArray false) Q tm H u := by
  intro w0 B0 S0 a w B S c0 cs mode s hu
  refine wpS_region ?_
  have := awls_sound (ops := l.toArray) (R := LiftS w0 B0 S0 H0 c0 cs Q) (c0 := c0) (cs := cs) l 0 tm H u a w B S mode (fun j => by simp) h s hu
    (fun tm' H' u' a' w' B' S' mode' hk s' hu' => ⟨.normal, tm', H', B', S', u', mode', hk, s', hu', rfl, trivial⟩)
  simpa [List.range_eq_range'] using this

/-- At its end: memory is told by H1, the panic is recovered. -/
def RetS (P : Program) (rs : List ResultVar) (H0 : List AObj) (H1 : List AObj) : AEx → List AV → List AObj → UM → Prop
  | .normal, tm, H, u | .ret, tm, H, u => (∃ vs, aResultL P tm H rs = some vs) ∧ (∃ m, Droppable H0 H m ∧ H1 = H.take m) ∧ (match u with | .pan _ => False | _ => True)
  | _, _, _, _ => False

theorem ARunD.intro {f : FuncId} {fn : Func} {c : Code} {args : List AV} {u : Option AV} {H1 : List AObj} {n : Nat} {rs : List ResultVar} (hf : P.funcs[f]? = some fn) (hb : fn.body = some c)
    (hcall : ∀ xs w, (callFunc f xs).run P w = .ok (.enter f xs) w) (hn : fn.ntmps = n) (hrs : fn.results = rs.toArray)
    (h : AWPS P H0 c (RetS P rs H0 H1) (args ++ List.replicate (n - args.length) (.tup [])) H0 (UM.of u)) : ARunD P f args H0 u H1 := by
  refine ⟨hcall, fun w B S vs mode hr hargs hm => ?_⟩
  have hl := hargs.1
  have hmode : ∀ c₀ : Frame, c₀.mode = mode → c₀ = { c₀ with mode := mode } := by intro c₀ h; subst h; rfl
  refine callsD_of_wpS hf hb (fun c₀ cs hc => ?_)
  have s : Sim w B S H0 [] (args ++ List.replicate (n - args.length) (.tup [])) H0 { tmps := vs.toArray ++ Array.replicate (fn.ntmps - vs.toArray.size) undef, defers := [] } w B S := by
    refine ⟨hr, Step.refl _ _ _ _, hr, ?_, rfl⟩
    have : (vs.toArray ++ Array.replicate (fn.ntmps - vs.toArray.size) undef).toList = vs ++ List.replicate (n - args.length) undef := by
      simp [hn, hl]
    rw [this]
    refine hargs.append ⟨by simp, fun j c v hc hv => ?_⟩
    have h1 := (List.mem_replicate.1 (List.mem_of_getElem? hc)).2
    have h2 := (List.mem_replicate.1 (List.mem_of_getElem? hv)).2
    subst h1; subst h2
    exact undef_rel
  have hu : URel w B S H0 (UM.of u) mode := by
    cases u with
    | none => exact hm
    | some x => exact hm
  have := h w B S _ w B S c₀ cs mode s hu
  rw [← hmode c₀ hc] at this
  refine wpS_mono this ?_
  have ret : ∀ tm H a' w' B' S' u' mode', Sim w B S H0 [] tm H a' w' B' S' → URel w' B' S' H u' mode' → RetS P rs H0 H1 .ret tm H u' →
      a'.defers = [] ∧ ∃ u'', ({ c₀ with mode := mode' } :: cs : List Frame) = { c₀ with mode := u'' } :: cs ∧ ∃ v, (results fn a'.tmps).run P w' = .ok v w' ∧
        ((∃ x, Ending.returned v = .returned x) ∧ settle u'' = .returning ∧ ∃ B' S', Step w B S H0 w' B' S' H1 ∧ HRel w' B' S' H1) := by
    rintro tm H a' w' B' S' u' mode' s' hu' ⟨⟨vs', hvs⟩, ⟨m, hd, rfl⟩, hnp⟩
    obtain ⟨x, hx1, hx2⟩ := results_rel (P := P) (fn := fn) s' (by rw [hrs]; exact hvs)
    have s2 := s'.dropped 0 hd
    refine ⟨s'.defers, mode', rfl, x, hx1, ⟨x, rfl⟩, ?_, B', _, s2.step, s2.hrel⟩
    cases u' with
    | none => obtain rfl := hu'; rfl
    | pan x => exact hnp.elim
    | recd x => obtain ⟨v, rfl, _⟩ := hu'; rfl
  rintro e a' cs' w' ⟨x, tm', H', B', S', u', mode', hq, s', hu', rfl, hx⟩
  cases x <;> cases e <;> simp only [XRel] at hx <;> try (exact hx.elim)
  case normal.normal => exact ret _ _ _ _ _ _ _ _ s' hu' hq
  case exit.exit => exact hq.elim
  case goto.goto => exact hq.elim
  case ret.ret => exact ret _ _ _ _ _ _ _ _ s' hu' hq
  case pan.panic => exact hq.elim
end
end Go.Proofs.Ytkchihkmhojdnaa.AL

/- Loops by induction, ghosts, falling away: short words. -/
set_option linter.unusedVariables false
set_option linter.unusedSimpArgs false
namespace Go.Proofs.Ytkchihkmhojdnaa.AL

section
variable {P : Program} {H0 : List AObj} {Q : AEx → List AV → List AObj → Prop} {tm : List AV} {H : List AObj}

theorem awe_cases {ops : List Oper} {o : Oper} {rest : List Oper} {f : FuncId} {args : List AV} {b : Bool} {o1 o2 : AOut} (h : ARun P f args H (cond b o1 o2))
    (h1 : b = true → AWO P ops Q o rest tm o1) (h2 : b = false → AWO P ops Q o rest tm o2) : AWE P ops Q o rest tm H f args := by
  cases b
  · exact awe_intro h (h2 rfl)
  · exact awe_intro h (h1 rfl)
theorem awloop_step {c : Code} {n : Nat} (h : AWP P H0 c (AEx.thn (AWLoop P H0 c Q n) Q) tm H) : AWLoop P H0 c Q (n + 1) tm H := h
theorem awp_loop_ind {σ : Type} {c : Code} (μ : σ → Nat) (Inv : σ → Prop) (T : σ → List AV) (M : σ → List AObj) (s0 : σ) (h0 : Inv s0) (hw : Wk H0 tm H (T s0) (M s0))
    (step : ∀ s, Inv s → AWP P H0 c (AEx.thn (fun tm' H' => ∃ s', μ s' < μ s ∧ Inv s' ∧ Wk H0 tm' H' (T s') (M s')) Q) (T s) (M s)) : AWP P H0 (.loop c) Q tm H := by
  have key : ∀ n s, Inv s → μ s < n → AWLoop P H0 c Q n (T s) (M s) := by
    intro n
    induction n with
    | zero => intro s _ h; omega
    | succ n ih =>
      intro s hi hlt
      unfold AWLoop
      refine awp_mono (step s hi) ?_
      intro e tm' H' hq
      cases e with
      | normal =>
        obtain ⟨s', h1, h2, h3⟩ := hq
        exact (ih s' h2 (by omega)).wk h3
      | _ => exact hq
  exact awp_wk hw (awp_loop (μ s0 + 1) (key _ _ h0 (by omega)))

theorem PRel.len {w : World} {S : Nat → Prop} {sz : Nat} {rows : List (List PV)} {v : Value} (h : PRel w S (.rs sz rows) v) : (rows.length : Int) ≤ 9223372036854775807 := by
  cases h with
  | rs V hc hm => have := Nat.le_trans hc hm; unfold maxLen at this; omega
/-- A slice's length is a number of the machine. -/
theorem awp_len {c : Code} (k : Nat) {sz : Nat} {rows : List (List PV)} (hk : tm[k]? = some (.pv (.rs sz rows))) (h : (rows.length : Int) ≤ 9223372036854775807 → AWP P H0 c Q tm H) : AWP P H0 c Q tm H := by
  intro w0 B0 S0 D a w B S s
  have hl : tm.length = a.tmps.toList.length := s.tmps.1
  have hlt := (List.getElem?_eq_some_iff.1 hk).1
  have := s.tmps.2 k _ a.tmps.toList[k] hk (List.getElem?_eq_getElem (by omega))
  cases this with
  | pv hp => exact h hp.len w0 B0 S0 D a w B S s
theorem awp_len_agg {c : Code} (k j : Nat) {cs : List AV} {sz : Nat} {rows : List (List PV)} (hk : tm[k]? = some (.agg cs)) (hj : cs[j]? = some (.pv (.rs sz rows))) (h : (rows.length : Int) ≤ 9223372036854775807 → AWP P H0 c Q tm H) :
    AWP P H0 c Q tm H := by
  intro w0 B0 S0 D a w B S s
  have hl : tm.length = a.tmps.toList.length := s.tmps.1
  have hlt := (List.getElem?_eq_some_iff.1 hk).1
  have := s.tmps.2 k _ a.tmps.toList[k] hk (List.getElem?_eq_getElem (by omega))
  generalize a.tmps.toList[k] = v at this
  cases this with
  | @agg _ vs hl h1 hr =>
    have hlt := (List.getElem?_eq_some_iff.1 hj).1
    have := hr j _ vs[j] hj (List.getElem?_eq_getElem (by omega))
    cases this with
    | pv hp => exact h hp.len w0 B0 S0 D a w B S s

theorem droppable_app {L : List AObj} (k : Nat) (hk : k ≤ L.length) (h : ∀ o ∈ L.take k, o.under (H0.length + k)) : Droppable H0 (H0 ++ L) (H0.length + k) := by
  refine ⟨by omega, by simp; omega, fun id o hid ho => ?_⟩
  by_cases hlt : id < H0.length
  · rw [List.getElem?_append_left hlt] at ho; exact .inl ho
  · rw [List.getElem?_append_right (by omega)] at ho
    refine .inr (h o ?_)
    refine List.mem_of_getElem? (i := id - H0.length) ?_
    rw [List.getElem?_take, if_pos (by omega)]; exact ho

theorem droppable_set {L : List AObj} {i : Nat} {y : AObj} (k : Nat) (hk : k ≤ L.length) (hy : y.under (H0.length + k)) (h : ∀ o ∈ L.take k, o.under (H0.length + k)) : Droppable H0 (H0.set i y ++ L) (H0.length + k) := by
  refine ⟨by omega, by simp; omega, fun id o hid ho => ?_⟩
  by_cases hlt : id < H0.length
  · rw [List.getElem?_append_left (by simpa using hlt), List.getElem?_set] at ho
    by_cases he : i = id
    · subst he
      simp only [if_true, hlt, Option.some.injEq] at ho
      subst ho; exact .inr hy
    · rw [if_neg he] at ho; exact .inl ho
  · rw [List.getElem?_append_right (by simpa using hlt)] at ho
    refine .inr (h o ?_)
    refine List.mem_of_getElem? (i := id - H0.length) ?_
    rw [List.getElem?_take, if_pos (by omega)]; simpa using ho

theorem Wk.to {m : Nat} {tm' : List AV} {H' : List AObj} (d : Nat) (hd : Droppable H0 H m) (hH : H.take m = H') (ht : Fgt (tm.map fun c => c.low H m d) tm') : Wk H0 tm H tm' H' := by
  subst hH
  exact (Wk.drop d hd).trans (Wk.fgt ht)
theorem take_app (A L : List AObj) (k : Nat) : (A ++ L).take (A.length + k) = A ++ L.take k := by rw [List.take_append, List.take_of_length_le (by omega)]; congr 1; congr 1; omega
theorem take_app_set (A L : List AObj) (i : Nat) (y : AObj) (k : Nat) : (A.set i y ++ L).take (A.length + k) = A.set i y ++ L.take k := by rw [List.take_append, List.take_of_length_le (by simp)]; congr 1; congr 1; simp

/-- The first k objects of one's own stay, the others fall away. -/
theorem Wk.keep {L : List AObj} {tm' : List AV} (k d : Nat) (hk : k ≤ L.length) (h : ∀ o ∈ L.take k, o.under (H0.length + k)) (ht : Fgt (tm.map fun c => c.low (H0 ++ L) (H0.length + k) d) tm') :
    Wk H0 tm (H0 ++ L) tm' (H0 ++ L.take k) := Wk.to d (droppable_app k hk h) (take_app _ _ _) ht
theorem Wk.keepE {L L' : List AObj} {tm' : List AV} (k d : Nat) (hL : L.take k = L') (hk : k ≤ L.length) (h : ∀ o ∈ L', o.under (H0.length + k)) (ht : Fgt (tm.map fun c => c.low (H0 ++ L) (H0.length + k) d) tm') :
    Wk H0 tm (H0 ++ L) tm' (H0 ++ L') := by subst hL; exact Wk.keep k d hk h ht
/-- Nothing of one's own stays. -/
theorem Wk.drop0 {L : List AObj} {tm' : List AV} (d : Nat) (ht : Fgt (tm.map fun c => c.low (H0 ++ L) H0.length d) tm') : Wk H0 tm (H0 ++ L) tm' H0 := by
  have := Wk.keep (H0 := H0) (L := L) (tm := tm) (tm' := tm') 0 d (Nat.zero_le _) (by simp) (by simpa using ht)
  simpa using this
theorem Fin.keep {L : List AObj} {v v2 : AV} (k d : Nat) (hk : k ≤ L.length) (h : ∀ o ∈ L.take k, o.under (H0.length + k)) (hv : v2 = v.low (H0 ++ L) (H0.length + k) d) :
    Fin H0 (H0 ++ L) v (H0 ++ L.take k) v2 := ⟨_, d, droppable_app k hk h, (take_app _ _ _).symm, Cv.of hv⟩
theorem Fin.set {L : List AObj} {i : Nat} {y : AObj} {v v2 : AV} (d : Nat) (hy : y.under H0.length) (hv : v2 = v.low (H0.set i y ++ L) H0.length d) :
    Fin H0 (H0.set i y ++ L) v (H0.set i y) v2 := ⟨H0.length, d, by simpa using droppable_set (H0 := H0) (L := L) (i := i) (y := y) 0 (Nat.zero_le _) hy (by simp), by simp [List.take_append], Cv.of hv⟩

/-! ### a nil slice is an empty row of one's own -/
theorem Wk.ghost (k : Nat) (t : TypeId) {sz : Nat} (hsz : 0 < sz) (hk : tm[k]? = some (.pv (.sc (.slice none 0 0)))) : Wk H0 tm H (tm.set k (.os H.length 0 0 0)) (H ++ [.arr t sz []]) := by
  intro w0 B0 S0 D a w B S s
  let B' : BMap := fun i => if i = H.length then none else B i
  have hB : ∀ i, i < H.length → B' i = B i := fun i hi => if_neg (by omega)
  have get : ∀ i, i < H.length → (H ++ [.arr t sz []])[i]? = H[i]? := fun i hi => List.getElem?_append_left hi
  have st : Step w B S H w B' S (H ++ [.arr t sz []]) := by
    refine ⟨rfl, rfl, rfl, Nat.le_refl _, fun _ h => h, fun _ _ => rfl, by simp, ?_, ?_⟩
    · intro id t' sz' rows h
      have hlt := (List.getElem?_eq_some_iff.1 h).1
      exact .inr ⟨rows, by rw [get id hlt]; exact h, Nat.le_refl _, fun _ => hB id hlt⟩
    · intro id hid hn
      exact ⟨hB id hid, fun t' sz' rows => by rw [get id hid]; exact hn t' sz' rows⟩
  have hr : HRel w B' S (H ++ [.arr t sz []]) := by
    have hlt' : ∀ i, i < (H ++ [AObj.arr t sz []]).length → B' i ≠ none → i < H.length := by
      intro i hi hb
      simp only [List.length_append, List.length_cons, List.length_nil] at hi
      by_cases e : i = H.length
      · exact absurd (if_pos e) hb
      · omega
    refine ⟨?_, ?_, ?_, s.hrel.bound⟩
    · intro id o h
      by_cases hlt : id < H.length
      · rw [get id hlt] at h
        exact (s.hrel.obj id o h).keep st (hB id hlt) (fun _ _ _ => rfl)
      · rw [List.getElem?_append_right (by omega)] at h
        have : id = H.length := by
          have := (List.getElem?_eq_some_iff.1 h).1
          simp at this; omega
        subst this
        simp only [Nat.sub_self, List.getElem?_cons_zero, Option.some.injEq] at h
        subst h
        exact ⟨by simp, hsz, .inl ⟨if_pos rfl, rfl⟩⟩
    · intro i j b c d hi hj hdi hdj h1 h2
      have hi' := hlt' i hi (by rw [h1]; simp)
      have hj' := hlt' j hj (by rw [h2]; simp)
      rw [get i hi'] at hdi
      rw [get j hj'] at hdj
      rw [hB i hi'] at h1
      rw [hB j hj'] at h2
      exact s.hrel.inj i j b c d hi' hj' hdi hdj h1 h2
    · intro i b c hi hd h1
      have hi' := hlt' i hi (by rw [h1]; simp)
      rw [get i hi'] at hd
      rw [hB i hi'] at h1
      exact s.hrel.sep i b c hi' hd h1
  have s' := s.mono st hr
  refine ⟨B', S, s'.entry, s'.step, s'.hrel, ?_, s'.defers⟩
  refine ⟨by simpa using s'.tmps.1, fun j c v hc hv => ?_⟩
  rw [List.getElem?_set] at hc
  split at hc
  · rename_i e
    subst e
    split at hc
    · simp only [Option.some.injEq] at hc
      subst hc
      have hv0 := s'.tmps.2 k _ v hk hv
      have : v = .slice none 0 0 := sc_eq hv0
      subst this
      refine .os (by simp) rfl (fun t' sz' rows h => ?_)
      rw [List.getElem?_append_right (by omega)] at h
      simp only [Nat.sub_self, List.getElem?_cons_zero, Option.some.injEq, AObj.arr.injEq] at h
      obtain ⟨rfl, rfl, rfl⟩ := h
      refine ⟨by simp, fun _ => ?_⟩
      unfold OsRel
      simp [B']
    · cases hc
  · exact s'.tmps.2 j c v hc hv
end

theorem Wk.ghostL {H0 : List AObj} {tm : List AV} {L L' : List AObj} {tm' : List AV} (k n : Nat) (t : TypeId) {sz : Nat} (hsz : 0 < sz) (hn : L.length = n) (hk : tm[k]? = some (.pv (.sc (.slice none 0 0)))) (hL : L ++ [.arr t sz []] = L')
    (hf : Fgt (tm.set k (.os (H0.length + n) 0 0 0)) tm') : Wk H0 tm (H0 ++ L) tm' (H0 ++ L') := by
  subst hn; subst hL
  have := Wk.ghost (H0 := H0) (tm := tm) (H := H0 ++ L) k t hsz hk
  rw [List.append_assoc, List.length_append] at this
  exact this.trans (Wk.fgt hf)

/-! ### pure values lie below everything -/
theorem under_pvs {m : Nat} (ps : List PV) : ∀ c ∈ ps.map AV.pv, c.under m := by
  intro c hc
  obtain ⟨p, _, rfl⟩ := List.mem_map.1 hc
  simp [AV.under]
theorem low_pvs {H : List AObj} {m d : Nat} (ps : List PV) : (ps.map AV.pv).map (fun c => c.low H m d) = ps.map AV.pv := by
  rw [List.map_map]
  apply List.map_congr_left
  intro p _
  simp [AV.low]
theorem toPVr_pvs {H : List AObj} {m : Nat} : ∀ (d : Nat) (ps : List PV), AV.toPVr H m d (ps.map AV.pv) = some ps
  | d, [] => by simp [AV.toPVr]
  | d, p :: ps => by
    have : AV.toPV H m d (.pv p) = some p := by cases d <;> simp [AV.toPV]
    simp [AV.toPVr, this, toPVr_pvs d ps]
theorem toPVs_pvs {H : List AObj} {m : Nat} : ∀ (d : Nat) (rows : List (List PV)), AV.toPVs H m d (rows.map fun r => r.map AV.pv) = some rows
  | d, [] => by simp [AV.toPVs]
  | d, r :: rows => by simp [AV.toPVs, toPVr_pvs, toPVs_pvs d rows]
/-- Rows of one's own that hold pure values, read from now on. -/
theorem low_os_pvs {H : List AObj} {m d id : Nat} {t : TypeId} {sz : Nat} {rows : List (List PV)} (hH : H[id]? = some (.arr t sz (rows.map fun r => r.map AV.pv))) (hm : m ≤ id) :
    (AV.os id 0 rows.length rows.length).low H m (d + 1) = .pv (.rs sz rows) := by
  have e : ((rows.map fun r => r.map AV.pv).drop 0).take rows.length = rows.map fun r => r.map AV.pv := by
    rw [List.drop_zero, List.take_of_length_le (by simp)]
  simp only [AV.low, if_neg (Nat.not_lt.2 hm), AV.toPV, hH, List.length_map, hm, and_self, if_true, e, toPVs_pvs, Option.map_some]
end Go.Proofs.Ytkchihkmhojdnaa.AL

/- A nil slice in a cell is an empty row of one's own. -/
set_option linter.unusedVariables false
set_option linter.unusedSimpArgs false
namespace Go.Proofs.Ytkchihkmhojdnaa.AL
section
variable {P : Program} {H0 : List AObj} {tm : List AV} {H : List AObj}

theorem Wk.ghostO (id j : Nat) (t : TypeId) {sz : Nat} {tt : TypeId} {cs : List AV} (hsz : 0 < sz) (hid : H[id]? = some (.cells tt cs)) (hj : cs[j]? = some (.pv (.sc (.slice none 0 0)))) :
    Wk H0 tm H tm (H.set id (.cells tt (cs.set j (.os H.length 0 0 0))) ++ [.arr t sz []]) := by
  intro w0 B0 S0 D a w B S s
  have hidl := (List.getElem?_eq_some_iff.1 hid).1
  let B' : BMap := fun i => if i = H.length then none else B i
  have hB : ∀ i, i < H.length → B' i = B i := fun i hi => if_neg (by omega)
  have get : ∀ i, i < H.length → i ≠ id → (H.set id (.cells tt (cs.set j (.os H.length 0 0 0))) ++ [.arr t sz []])[i]? = H[i]? := fun i hi hne => by
    rw [List.getElem?_append_left (by simpa using hi), List.getElem?_set, if_neg (fun e => hne e.symm)]
  have getid : (H.set id (.cells tt (cs.set j (.os H.length 0 0 0))) ++ [.arr t sz []])[id]? = some (.cells tt (cs.set j (.os H.length 0 0 0))) := by
    rw [List.getElem?_append_left (by simpa using hidl), List.getElem?_set, if_pos rfl, if_pos hidl]
  have getlast : (H.set id (.cells tt (cs.set j (.os H.length 0 0 0))) ++ [AObj.arr t sz []])[H.length]? = some (.arr t sz []) := by
    rw [List.getElem?_append_right (by simp)]; simp
  have st : Step w B S H w B' S (H.set id (.cells tt (cs.set j (.os H.length 0 0 0))) ++ [.arr t sz []]) := by
    refine ⟨rfl, rfl, rfl, Nat.le_refl _, fun _ h => h, fun _ _ => rfl, by simp, ?_, ?_⟩
    · intro i t' sz' rows h
      have hlt := (List.getElem?_eq_some_iff.1 h).1
      have hne : i ≠ id := by intro e; subst e; rw [hid] at h; cases h
      exact .inr ⟨rows, by rw [get i hlt hne]; exact h, Nat.le_refl _, fun _ => hB i hlt⟩
    · intro i hi hn
      refine ⟨hB i hi, fun t' sz' rows => ?_⟩
      by_cases hne : i = id
      · subst hne; rw [getid]; simp
      · rw [get i hi hne]; exact hn t' sz' rows
  have hr : HRel w B' S (H.set id (.cells tt (cs.set j (.os H.length 0 0 0))) ++ [.arr t sz []]) := by
    have hlt' : ∀ i, i < (H.set id (.cells tt (cs.set j (.os H.length 0 0 0))) ++ [AObj.arr t sz []]).length → B' i ≠ none → i < H.length := by
      intro i hi hb
      simp only [List.length_append, List.length_set, List.length_cons, List.length_nil] at hi
      by_cases e : i = H.length
      · exact absurd (if_pos e) hb
      · omega
    have dead : ∀ i, i < H.length → (H.set id (.cells tt (cs.set j (.os H.length 0 0 0))) ++ [AObj.arr t sz []])[i]? ≠ some .dead → H[i]? ≠ some .dead := by
      intro i hi h
      by_cases hne : i = id
      · subst hne; rw [hid]; simp
      · rwa [get i hi hne] at h
    refine ⟨?_, ?_, ?_, s.hrel.bound⟩
    · intro i o h
      by_cases hlt : i < H.length
      · by_cases hne : i = id
        · subst hne
          rw [getid] at h
          simp only [Option.some.injEq] at h
          subst h
          obtain ⟨b, c, vs, h1, h2, h3, h4⟩ := s.hrel.obj i _ hid
          refine ⟨b, c, vs, (hB i hlt).trans h1, h2, ⟨by simpa using h3.1, fun k x v hx hv => ?_⟩, h4⟩
          rw [List.getElem?_set] at hx
          split at hx
          · rename_i e
            subst e
            split at hx
            · simp only [Option.some.injEq] at hx
              subst hx
              have : v = .slice none 0 0 := sc_eq (h3.2 j _ v hj hv)
              subst this
              refine .os (by simp) rfl (fun t' sz' rows hh => ?_)
              rw [getlast] at hh
              simp only [Option.some.injEq, AObj.arr.injEq] at hh
              obtain ⟨rfl, rfl, rfl⟩ := hh
              refine ⟨by simp, fun _ => ?_⟩
              unfold OsRel
              simp [B']
            · cases hx
          · exact (h3.2 k x v hx hv).mono st
        · rw [get i hlt hne] at h
          exact (s.hrel.obj i o h).keep st (hB i hlt) (fun _ _ _ => rfl)
      · have hi := (List.getElem?_eq_some_iff.1 h).1
        simp only [List.length_append, List.length_set, List.length_cons, List.length_nil] at hi
        have : i = H.length := by omega
        subst this
        rw [getlast] at h
        simp only [Option.some.injEq] at h
        subst h
        exact ⟨by simp, hsz, .inl ⟨if_pos rfl, rfl⟩⟩
    · intro i k b c d hi hk hdi hdk h1 h2
      have hi' := hlt' i hi (by rw [h1]; simp)
      have hk' := hlt' k hk (by rw [h2]; simp)
      rw [hB i hi'] at h1
      rw [hB k hk'] at h2
      exact s.hrel.inj i k b c d hi' hk' (dead i hi' hdi) (dead k hk' hdk) h1 h2
    · intro i b c hi hd h1
      have hi' := hlt' i hi (by rw [h1]; simp)
      rw [hB i hi'] at h1
      exact s.hrel.sep i b c hi' (dead i hi' hd) h1
  have s' := s.mono st hr
  exact ⟨B', S, s'.entry, s'.step, s'.hrel, s'.tmps, s'.defers⟩
end
end Go.Proofs.Ytkchihkmhojdnaa.AL

/- Walks of functions that defer: short words. -/
set_option linter.unusedVariables false
set_option linter.unusedSimpArgs false
namespace Go.Proofs.Ytkchihkmhojdnaa.AL
/-- Whatever is told by p is told by q. -/
def PCv (p q : PV) : Prop := ∀ w S v, PRel w S p v → PRel w S q v
theorem PCv.refl (p : PV) : PCv p p := fun _ _ _ h => h
theorem PCv.nil {sz : Nat} (h : 0 < sz) : PCv (.sc (.slice none 0 0)) (.rs sz []) := by
  intro w S v hv
  cases hv with
  | sc hv => exact .rs (rows := []) (fun _ _ => undef) (Nat.le_refl _) (Nat.zero_le _) h (fun _ => rfl) (by simp) (by simp) (by simp)
def PCvR : List PV → List PV → Prop
  | [], [] => True
  | a :: asx, b :: bs => PCv a b ∧ PCvR asx bs
  | _, _ => False
def PCvRs : List (List PV) → List (List PV) → Prop
  | [], [] => True
  | a :: asx, b :: bs => PCvR a b ∧ PCvRs asx bs
  | _, _ => False
theorem PCvR.get : ∀ {asx bs : List PV}, PCvR asx bs → asx.length = bs.length ∧ ∀ (j : Nat) (b : PV), bs[j]? = some b → ∃ a, asx[j]? = some a ∧ PCv a b
  | [], [], _ => ⟨rfl, fun j b h => by simp at h⟩
  | [], _ :: _, h => h.elim
  | _ :: _, [], h => h.elim
  | a :: asx, b :: bs, h => by
    obtain ⟨h1, h2⟩ := h
    obtain ⟨g1, g2⟩ := PCvR.get h2
    refine ⟨by simp [g1], fun j c hj => ?_⟩
    cases j with
    | zero => simp only [List.getElem?_cons_zero, Option.some.injEq] at hj; subst hj; exact ⟨a, rfl, h1⟩
    | succ j => simp only [List.getElem?_cons_succ] at hj ⊢; exact g2 j c hj
theorem PCvRs.get : ∀ {asx bs : List (List PV)}, PCvRs asx bs → asx.length = bs.length ∧ ∀ (j : Nat) (b : List PV), bs[j]? = some b → ∃ a, asx[j]? = some a ∧ PCvR a b
  | [], [], _ => ⟨rfl, fun j b h => by simp at h⟩
  | [], _ :: _, h => h.elim
  | _ :: _, [], h => h.elim
  | a :: asx, b :: bs, h => by
    obtain ⟨h1, h2⟩ := h
    obtain ⟨g1, g2⟩ := PCvRs.get h2
    refine ⟨by simp [g1], fun j c hj => ?_⟩
    cases j with
    | zero => simp only [List.getElem?_cons_zero, Option.some.injEq] at hj; subst hj; exact ⟨a, rfl, h1⟩
    | succ j => simp only [List.getElem?_cons_succ] at hj ⊢; exact g2 j c hj
theorem PCv.rs {sz : Nat} {rows rows' : List (List PV)} (h : PCvRs rows rows') : PCv (.rs sz rows) (.rs sz rows') := by
  intro w S v hv
  obtain ⟨g1, g2⟩ := h.get
  cases hv with
  | @rs _ _ A c V hc hm hp hA hsz hcell hrel =>
    have back : ∀ (i : Nat) (r' : List PV) (j : Nat) (p' : PV), rows'[i]? = some r' → r'[j]? = some p' → ∃ (r : List PV) (p : PV), rows[i]? = some r ∧ r[j]? = some p ∧ PCv p p' := by
      intro i r' j p' hi hj
      obtain ⟨r, hr, hrr⟩ := g2 i r' hi
      obtain ⟨_, q2⟩ := hrr.get
      obtain ⟨p, hp, hpp⟩ := q2 j p' hj
      exact ⟨r, p, hr, hp, hpp⟩
    rw [g1]
    refine .rs V (by omega) hm hp hA ?_ ?_ ?_
    · intro r' hr'
      obtain ⟨i, hi⟩ := List.getElem?_of_mem hr'
      obtain ⟨r, hr, hrr⟩ := g2 i r' hi
      rw [← hrr.get.1]
      exact hsz r (List.mem_of_getElem? hr)
    · intro i r' j p' hi hj
      obtain ⟨r, p, hr, hp', _⟩ := back i r' j p' hi hj
      exact hcell i r j p hr hp'
    · intro i r' j p' hi hj
      obtain ⟨r, p, hr, hp', hpp⟩ := back i r' j p' hi hj
      exact hpp _ _ _ (hrel i r j p hr hp')
theorem Cv.pv {p q : PV} (h : PCv p q) : Cv (.pv p) (.pv q) := by
  intro w B S H v hv
  cases hv with
  | pv hv => exact .pv (h _ _ _ hv)

def AV.fl1 : AV → Bool
  | .pv (.sc _) => true
  | _ => false
def AV.fl2 : AV → Bool
  | .pv (.sc _) => true
  | .agg cs => cs.all AV.fl1
  | _ => false
/-- Plain: it does not speak of memory. -/
def AV.fl3 : AV → Bool
  | .tup cs => cs.all AV.fl2
  | a => a.fl2

section
variable {w w' : World} {B B' : BMap} {S S' : Nat → Prop} {H H' : List AObj}
theorem fl1_rel {a : AV} {v : Value} (hf : a.fl1 = true) (h : ARel w B S H a v) : ARel w' B' S' H' a v := by
  cases h with
  | pv h => cases h with
    | sc h => exact .pv (.sc h)
    | rs => simp [AV.fl1] at hf
  | _ => simp [AV.fl1] at hf
theorem fl2_rel {a : AV} {v : Value} (hf : a.fl2 = true) (h : ARel w B S H a v) : ARel w' B' S' H' a v := by
  cases h with
  | pv h => cases h with
    | sc h => exact .pv (.sc h)
    | rs => simp [AV.fl2] at hf
  | agg hl h1 h =>
    simp only [AV.fl2, List.all_eq_true] at hf
    exact .agg hl h1 (fun j c v hc hv => fl1_rel (hf c (List.mem_of_getElem? hc)) (h j c v hc hv))
  | _ => simp [AV.fl2] at hf
theorem fl3_rel {a : AV} {v : Value} (hf : a.fl3 = true) (h : ARel w B S H a v) : ARel w' B' S' H' a v := by
  cases h with
  | tup hl h =>
    simp only [AV.fl3, List.all_eq_true] at hf
    exact .tup hl (fun j c v hc hv => fl2_rel (hf c (List.mem_of_getElem? hc)) (h j c v hc hv))
  | pv h => exact fl2_rel (B := B) (H := H) (by simpa [AV.fl3] using hf) (.pv h)
  | agg hl h1 h => exact fl2_rel (B := B) (H := H) (by simpa [AV.fl3] using hf) (.agg hl h1 h)
  | _ => simp [AV.fl3, AV.fl2] at hf

/-- A function that only reads may be lent rows of one's own. -/
theorem ARun.lend {P : Program} {f : FuncId} {args args' : List AV} {v : AV} (d : Nat) (h : ARun P f args' [] (.ret v [])) (ha : CvL (args.map fun c => c.low H 0 d) args') (hv : v.fl3 = true) : ARun P f args H (.ret v H) := by
  refine ⟨h.call, fun w B S vs hr hargs => ?_⟩
  have hr0 := drop_rel hr (m := 0) (Nat.zero_le _) (fun id o hid => by omega)
  rw [List.take_zero] at hr0
  have ha0 : ARelL w B (Rest B S H 0) [] args' vs := by
    obtain ⟨g1, g2⟩ := ha.get
    refine ⟨by rw [← g1, List.length_map]; exact hargs.1, fun j c v hc hv => ?_⟩
    obtain ⟨c1, hc1, hcv⟩ := g2 j c hc
    simp only [List.getElem?_map, Option.map_eq_some_iff] at hc1
    obtain ⟨c', hc, rfl⟩ := hc1
    have := low_rel (n := d) hr (m := 0) (Nat.zero_le _) (hargs.2 j c' v hc hv)
    rw [List.take_zero] at this
    exact hcv _ _ _ _ _ this
  refine (h.run w B _ vs hr0 ha0).mono ?_
  rintro e w' ⟨B', S', st, hr', he⟩
  cases e with
  | panicked c => exact he.elim
  | outgrown => exact he.elim
  | returned x =>
    have st2 : Step w B S H w' B S H := ⟨st.os, st.tape, st.output, st.size, fun _ h => h, fun b hb => st.keep b (.inl hb), Nat.le_refl _,
      fun id t sz rows h => .inr ⟨rows, h, Nat.le_refl _, fun _ => rfl⟩, fun id _ h => ⟨rfl, h⟩⟩
    refine ⟨B, S, st2, ⟨?_, hr.inj, hr.sep, fun b hb => Nat.lt_of_lt_of_le (hr.bound b hb) st.size⟩, fl3_rel hv he⟩
    intro id o ho
    replace ho : H[id]? = some o := ho
    have hlt := (List.getElem?_eq_some_iff.1 ho).1
    cases o with
    | dead => trivial
    | cells t cs => exact (hr.obj id _ ho).keep st2 rfl (fun b c hB => st.keep b (.inr ⟨id, c, Nat.zero_le _, hlt, by rw [ho]; simp, hB⟩))
    | arr t sz rows => exact (hr.obj id _ ho).keep st2 rfl (fun b c hB => st.keep b (.inr ⟨id, c, Nat.zero_le _, hlt, by rw [ho]; simp, hB⟩))
end

section
variable {P : Program} {H0 : List AObj} {Q : AEx → List AV → List AObj → List ADef → Prop} {tm : List AV} {H : List AObj} {AD : List ADef}
theorem awpd_region_k {id : Nat} {l : List Oper} (h : ∀ (Kn : List AV → List AObj → Prop) (Kp : AV → List AV → List AObj → Prop), (∀ tm H, Q .normal tm H AD → Kn tm H) → (∀ x tm H, Q (.pan x) tm H AD → Kp x tm H) → AWL P l (AEx.two Kn Kp) l tm H) :
    AWPD P H0 (.region id l.toArray false) Q tm H AD := by
  refine awpd_of (awp_region (h (fun tm H => Q .normal tm H AD) (fun x tm H => Q (.pan x) tm H AD) (fun _ _ h => h) (fun _ _ _ h => h))) ?_
  intro e tm H hq
  cases e <;> first | exact hq | exact hq.elim
theorem awpd_drawn_k {id : Nat} {l : List Oper} (effs bad : List Nat) (plan : List OpPlan) (ne : Nat) (hm : P.follows .mixedOrders = true)
    (hok : (drawOk l (ancTab l) effs (winsOf l effs) && bad.all (· < l.length) && decide (planOf l effs bad = plan) && effs.length == ne) = true)
    (h : ∀ (Kn : List AV → List AObj → Prop) (Kp : AV → List AV → List AObj → Prop), (∀ tm H, Q .normal tm H AD → Kn tm H) → (∀ x tm H, Q (.pan x) tm H AD → Kp x tm H) →
      AWSeq P l (fun T H' Hs => Hs.getD 0 [] = H ∧ GoodP P l T (AEx.two Kn Kp) Hs plan l ∧ (bad = [] → Kn T (Hs.getD ne []))) plan l tm H [H]) : AWPD P H0 (.region id l.toArray true) Q tm H AD := by
  refine awpd_of (awp_drawn (Q := AEx.two (fun tm H => Q .normal tm H AD) (fun x tm H => Q (.pan x) tm H AD)) effs bad plan ne hm hok (h _ _ (fun _ _ h => h) (fun _ _ _ h => h))) ?_
  intro e tm H hq
  cases e <;> first | exact hq | exact hq.elim
end
end Go.Proofs.Ytkchihkmhojdnaa.AL

/- The words of the walk, under one name. -/
namespace Go.Proofs.Ytkchihkmhojdnaa.AL
attribute [go_sem] aExt RetD AEx.thnD aEqStep aEq aEqV aEqFs aEqIs aws_nil aws_skip aws_pan aws_eff aws_win awsg_true awsg_false awsr_next awsr_enter awsr_enterF awso_true awso_false GoodP AllAt OGW OGR PGW PGR DstIs awl_nil awl_cons awg_true awg_false awr_next awr_pan awr_enter awr_run awo_ret awo_pan aWanted aStep aev aput aCall AV.ofV AV.sc ARes.ofV AV.cells AV.one aZero aLoad aPart aStore aSplice aOff aField aPartV aIndexAddr aIndex aLen aSlice aBound aBuild aFill aSliceLit aFillRows aMakeSlice aAppend aRows aInt AV.intOf? ADesc.isAgg Value.oneCell' AEx.thn AEx.inBlock AEx.two aResultL aResult aOne RetQ AOut.H getO0 getOk setO0 setOk getS0 getSk setS0 setSk
attribute [go_sem] true_implies false_implies List.getD_cons_zero List.getD_cons_succ List.getElem?_cons_zero List.getElem?_cons_succ List.getElem?_nil List.set_cons_zero List.set_cons_succ Option.getD_some Option.getD_none Option.isSome_some Option.isSome_none Option.map_some Option.map_none Option.bind_some Option.bind_none List.length_cons List.length_nil List.length_append List.length_set List.length_map List.map_cons List.map_nil List.all_cons List.all_nil List.append_assoc List.cons_append List.nil_append List.append_nil List.take_succ_cons List.take_zero List.drop_succ_cons List.drop_zero List.take_nil List.drop_nil List.replicate_succ List.replicate_zero Nat.zero_add Nat.add_zero Nat.zero_mul Nat.add_assoc Int.one_mul Bool.and_true Bool.true_and Bool.and_self Bool.or_false Bool.and_false Bool.false_and and_true true_and and_self or_true true_or or_false false_or if_true if_false Bool.false_eq_true Bool.not_true Bool.not_false beq_self_eq_true decide_true decide_false Nat.lt_irrefl Nat.le_refl Int.ofNat_eq_natCast Int.cast_ofNat_Int Fin.isValue List.getElem?_map Int.toNat_natCast Int.natCast_nonneg gt_iff_lt ge_iff_le beq_true beq_false
end Go.Proofs.Ytkchihkmhojdnaa.AL
namespace Go.Proofs.Ytkchihkmhojdnaa.AL
theorem pick_or (b y : Bool) : (if b = true then AV.pv (.sc (.bool true)) else AV.pv (.sc (.bool y))) = AV.pv (.sc (.bool (b || y))) := by cases b <;> rfl
theorem pick_and (b y : Bool) : (if b = true then AV.pv (.sc (.bool y)) else AV.pv (.sc (.bool false))) = AV.pv (.sc (.bool (b && y))) := by cases b <;> rfl
attribute [go_sem] pick_or pick_and
end Go.Proofs.Ytkchihkmhojdnaa.AL

namespace Go.Proofs.Ytkchihkmhojdnaa.Y
open Go.Proofs.Ytkchihkmhojdnaa.AL Go.Proofs
theorem ty1 : ATy.of Try.prog 1 = some ⟨1, 8, [.nilFunc], .other⟩ := by kernel_rfl
theorem ty2 : ATy.of Try.prog 2 = some ⟨1, 8, [.int .i64 0], .int⟩ := by kernel_rfl
theorem ty3 : ATy.of Try.prog 3 = some ⟨1, 8, [.int .i64 0], .int⟩ := by kernel_rfl
theorem ty4 : ATy.of Try.prog 4 = some ⟨1, 1, [.bool false], .bool⟩ := by kernel_rfl
theorem ty5 : ATy.of Try.prog 5 = some ⟨1, 1, [.int .u8 0], .int⟩ := by kernel_rfl
theorem ty6 : ATy.of Try.prog 6 = some ⟨1, 1, [.int .u8 0], .int⟩ := by kernel_rfl
theorem ty7 : ATy.of Try.prog 7 = some ⟨4, 24, [.int .i64 0, .int .i64 0, .bool false, .int .u8 0], .struct [(0, 2), (1, 3), (2, 4), (3, 6)]⟩ := by kernel_rfl
theorem ty8 : ATy.of Try.prog 8 = some ⟨4, 24, [.int .i64 0, .int .i64 0, .bool false, .int .u8 0], .struct [(0, 2), (1, 3), (2, 4), (3, 6)]⟩ := by kernel_rfl
theorem ty9 : ATy.of Try.prog 9 = some ⟨1, 16, [.string ⟨#[]⟩], .str⟩ := by kernel_rfl
theorem ty10 : ATy.of Try.prog 10 = some ⟨1, 16, [.string ⟨#[]⟩], .str⟩ := by kernel_rfl
theorem ty11 : ATy.of Try.prog 11 = some ⟨1, 16, [.string ⟨#[]⟩], .str⟩ := by kernel_rfl
theorem ty12 : ATy.of Try.prog 12 = some ⟨1, 8, [.int .u64 0], .int⟩ := by kernel_rfl
theorem ty13 : ATy.of Try.prog 13 = some ⟨2, 24, [.string ⟨#[]⟩, .int .u64 0], .struct [(0, 9), (1, 12)]⟩ := by kernel_rfl
theorem ty14 : ATy.of Try.prog 14 = some ⟨2, 24, [.string ⟨#[]⟩, .int .u64 0], .struct [(0, 9), (1, 12)]⟩ := by kernel_rfl
theorem ty15 : ATy.of Try.prog 15 = some ⟨1, 8, [.pointer none], .other⟩ := by kernel_rfl
theorem ty16 : ATy.of Try.prog 16 = some ⟨1, 8, [.pointer none], .other⟩ := by kernel_rfl
theorem ty17 : ATy.of Try.prog 17 = some ⟨1, 8, [.pointer none], .other⟩ := by kernel_rfl
theorem ty18 : ATy.of Try.prog 18 = some ⟨1, 8, [.pointer none], .struct [(0, 17)]⟩ := by kernel_rfl
theorem ty19 : ATy.of Try.prog 19 = some ⟨1, 8, [.pointer none], .struct [(0, 17)]⟩ := by kernel_rfl
theorem ty20 : ATy.of Try.prog 20 = some ⟨1, 16, [.nilIface], .iface⟩ := by kernel_rfl
theorem ty21 : ATy.of Try.prog 21 = some ⟨1, 4, [.int .i32 0], .int⟩ := by kernel_rfl
theorem ty22 : ATy.of Try.prog 22 = some ⟨1, 24, [.slice none 0 0], .slice 51⟩ := by kernel_rfl
theorem ty23 : ATy.of Try.prog 23 = some ⟨1, 24, [.slice none 0 0], .slice 59⟩ := by kernel_rfl
theorem ty24 : ATy.of Try.prog 24 = some ⟨5, 120, [.slice none 0 0, .slice none 0 0, .slice none 0 0, .slice none 0 0, .slice none 0 0], .array 5 23⟩ := by kernel_rfl
theorem ty25 : ATy.of Try.prog 25 = some ⟨9, 176, [.string ⟨#[]⟩, .slice none 0 0, .slice none 0 0, .slice none 0 0, .slice none 0 0, .slice none 0 0, .slice none 0 0, .int .i64 0, .int .i64 0], .struct [(0, 9), (1, 22), (2, 24), (7, 3), (8, 3)]⟩ := by kernel_rfl
theorem ty26 : ATy.of Try.prog 26 = some ⟨9, 176, [.string ⟨#[]⟩, .slice none 0 0, .slice none 0 0, .slice none 0 0, .slice none 0 0, .slice none 0 0, .slice none 0 0, .int .i64 0, .int .i64 0], .struct [(0, 9), (1, 22), (2, 24), (7, 3), (8, 3)]⟩ := by kernel_rfl
theorem ty27 : ATy.of Try.prog 27 = some ⟨1, 24, [.slice none 0 0], .slice 29⟩ := by kernel_rfl
theorem ty28 : ATy.of Try.prog 28 = some ⟨4, 48, [.int .i64 0, .int .i64 0, .int .i64 0, .slice none 0 0], .struct [(0, 3), (1, 3), (2, 3), (3, 27)]⟩ := by kernel_rfl
theorem ty29 : ATy.of Try.prog 29 = some ⟨4, 48, [.int .i64 0, .int .i64 0, .int .i64 0, .slice none 0 0], .struct [(0, 3), (1, 3), (2, 3), (3, 27)]⟩ := by kernel_rfl
theorem ty30 : ATy.of Try.prog 30 = some ⟨1, 8, [.nilFunc], .other⟩ := by kernel_rfl
theorem ty31 : ATy.of Try.prog 31 = some ⟨1, 8, [.nilFunc], .other⟩ := by kernel_rfl
theorem ty32 : ATy.of Try.prog 32 = some ⟨1, 8, [.nilFunc], .other⟩ := by kernel_rfl
theorem ty33 : ATy.of Try.prog 33 = some ⟨3, 24, [.int .i64 0, .int .i64 0, .int .i64 0], .struct [(0, 3), (1, 3), (2, 3)]⟩ := by kernel_rfl
theorem ty34 : ATy.of Try.prog 34 = some ⟨3, 24, [.int .i64 0, .int .i64 0, .int .i64 0], .struct [(0, 3), (1, 3), (2, 3)]⟩ := by kernel_rfl
theorem ty35 : ATy.of Try.prog 35 = some ⟨1, 8, [.int .i64 0], .int⟩ := by kernel_rfl
theorem ty37 : ATy.of Try.prog 37 = some ⟨1, 8, [.nilFunc], .other⟩ := by kernel_rfl
theorem ty39 : ATy.of Try.prog 39 = some ⟨1, 8, [.nilFunc], .other⟩ := by kernel_rfl
theorem ty40 : ATy.of Try.prog 40 = some ⟨1, 8, [.nilFunc], .other⟩ := by kernel_rfl
theorem ty41 : ATy.of Try.prog 41 = some ⟨1, 8, [.nilFunc], .other⟩ := by kernel_rfl
theorem ty42 : ATy.of Try.prog 42 = some ⟨1, 8, [.nilFunc], .other⟩ := by kernel_rfl
theorem ty43 : ATy.of Try.prog 43 = some ⟨1, 8, [.nilFunc], .other⟩ := by kernel_rfl
theorem ty44 : ATy.of Try.prog 44 = some ⟨1, 8, [.nilFunc], .other⟩ := by kernel_rfl
theorem ty45 : ATy.of Try.prog 45 = some ⟨1, 24, [.slice none 0 0], .slice 5⟩ := by kernel_rfl
theorem ty46 : ATy.of Try.prog 46 = some ⟨4, 4, [.int .u8 0, .int .u8 0, .int .u8 0, .int .u8 0], .array 4 5⟩ := by kernel_rfl
theorem ty48 : ATy.of Try.prog 48 = some ⟨1, 8, [.nilFunc], .other⟩ := by kernel_rfl
theorem ty49 : ATy.of Try.prog 49 = some ⟨1, 8, [.nilFunc], .other⟩ := by kernel_rfl
theorem ty50 : ATy.of Try.prog 50 = some ⟨5, 48, [.string ⟨#[]⟩, .int .i64 0, .int .i64 0, .int .i64 0, .int .i64 0], .struct [(0, 9), (1, 3), (2, 3), (3, 3), (4, 3)]⟩ := by kernel_rfl
theorem ty51 : ATy.of Try.prog 51 = some ⟨5, 48, [.string ⟨#[]⟩, .int .i64 0, .int .i64 0, .int .i64 0, .int .i64 0], .struct [(0, 9), (1, 3), (2, 3), (3, 3), (4, 3)]⟩ := by kernel_rfl
theorem ty52 : ATy.of Try.prog 52 = some ⟨1, 8, [.nilFunc], .other⟩ := by kernel_rfl
theorem ty53 : ATy.of Try.prog 53 = some ⟨1, 8, [.nilFunc], .other⟩ := by kernel_rfl
theorem ty54 : ATy.of Try.prog 54 = some ⟨1, 8, [.nilFunc], .other⟩ := by kernel_rfl
theorem ty55 : ATy.of Try.prog 55 = some ⟨1, 8, [.nilFunc], .other⟩ := by kernel_rfl
theorem ty56 : ATy.of Try.prog 56 = some ⟨1, 8, [.nilFunc], .other⟩ := by kernel_rfl
theorem ty57 : ATy.of Try.prog 57 = some ⟨1, 8, [.nilFunc], .other⟩ := by kernel_rfl
theorem ty58 : ATy.of Try.prog 58 = some ⟨13, 168, [.int .i64 0, .int .i64 0, .int .i64 0, .int .i64 0, .int .i64 0, .int .i64 0, .slice none 0 0, .int .i64 0, .int .i64 0, .int .i64 0, .slice none 0 0, .slice none 0 0, .slice none 0 0], .struct [(0, 3), (1, 3), (2, 3), (3, 29), (7, 29), (11, 23), (12, 23)]⟩ := by kernel_rfl
theorem ty59 : ATy.of Try.prog 59 = some ⟨13, 168, [.int .i64 0, .int .i64 0, .int .i64 0, .int .i64 0, .int .i64 0, .int .i64 0, .slice none 0 0, .int .i64 0, .int .i64 0, .int .i64 0, .slice none 0 0, .slice none 0 0, .slice none 0 0], .struct [(0, 3), (1, 3), (2, 3), (3, 29), (7, 29), (11, 23), (12, 23)]⟩ := by kernel_rfl
theorem ty60 : ATy.of Try.prog 60 = some ⟨1, 8, [.nilFunc], .other⟩ := by kernel_rfl
theorem ty61 : ATy.of Try.prog 61 = some ⟨1, 8, [.nilFunc], .other⟩ := by kernel_rfl
theorem ty62 : ATy.of Try.prog 62 = some ⟨1, 8, [.pointer none], .other⟩ := by kernel_rfl
theorem ty64 : ATy.of Try.prog 64 = some ⟨1, 8, [.nilFunc], .other⟩ := by kernel_rfl
theorem ty65 : ATy.of Try.prog 65 = some ⟨1, 8, [.nilFunc], .other⟩ := by kernel_rfl
theorem ty66 : ATy.of Try.prog 66 = some ⟨1, 8, [.nilFunc], .other⟩ := by kernel_rfl
theorem ty67 : ATy.of Try.prog 67 = some ⟨1, 8, [.nilFunc], .other⟩ := by kernel_rfl
theorem ty68 : ATy.of Try.prog 68 = some ⟨1, 8, [.pointer none], .other⟩ := by kernel_rfl
theorem ty69 : ATy.of Try.prog 69 = some ⟨3, 24, [.int .i64 0, .int .i64 0, .int .i64 0], .array 3 3⟩ := by kernel_rfl
theorem ty70 : ATy.of Try.prog 70 = some ⟨3, 24, [.int .i64 0, .int .i64 0, .int .i64 0], .array 3 3⟩ := by kernel_rfl
theorem ty71 : ATy.of Try.prog 71 = some ⟨1, 8, [.nilFunc], .other⟩ := by kernel_rfl
theorem ty72 : ATy.of Try.prog 72 = some ⟨1, 8, [.nilFunc], .other⟩ := by kernel_rfl
theorem ty73 : ATy.of Try.prog 73 = some ⟨1, 8, [.nilFunc], .other⟩ := by kernel_rfl
theorem ty74 : ATy.of Try.prog 74 = some ⟨1, 8, [.nilFunc], .other⟩ := by kernel_rfl
theorem ty75 : ATy.of Try.prog 75 = some ⟨1, 8, [.nilFunc], .other⟩ := by kernel_rfl
theorem ty77 : ATy.of Try.prog 77 = some ⟨1, 8, [.nilFunc], .other⟩ := by kernel_rfl
theorem ty78 : ATy.of Try.prog 78 = some ⟨1, 8, [.nilFunc], .other⟩ := by kernel_rfl
theorem ty79 : ATy.of Try.prog 79 = some ⟨1, 24, [.slice none 0 0], .slice 70⟩ := by kernel_rfl
theorem ty80 : ATy.of Try.prog 80 = some ⟨1, 24, [.slice none 0 0], .struct [(0, 79)]⟩ := by kernel_rfl
theorem ty81 : ATy.of Try.prog 81 = some ⟨1, 24, [.slice none 0 0], .struct [(0, 79)]⟩ := by kernel_rfl
theorem ty82 : ATy.of Try.prog 82 = some ⟨1, 8, [.nilFunc], .other⟩ := by kernel_rfl
theorem ty83 : ATy.of Try.prog 83 = some ⟨1, 8, [.nilFunc], .other⟩ := by kernel_rfl
theorem ty84 : ATy.of Try.prog 84 = some ⟨6, 48, [.int .i64 0, .int .i64 0, .int .i64 0, .int .i64 0, .int .i64 0, .int .i64 0], .array 2 34⟩ := by kernel_rfl
theorem ty85 : ATy.of Try.prog 85 = some ⟨1, 8, [.nilFunc], .other⟩ := by kernel_rfl
theorem ty86 : ATy.of Try.prog 86 = some ⟨1, 8, [.nilFunc], .other⟩ := by kernel_rfl
theorem ty87 : ATy.of Try.prog 87 = some ⟨1, 8, [.nilFunc], .other⟩ := by kernel_rfl
theorem ty88 : ATy.of Try.prog 88 = some ⟨1, 8, [.nilFunc], .other⟩ := by kernel_rfl
theorem ty89 : ATy.of Try.prog 89 = some ⟨15, 120, [.int .i64 0, .int .i64 0, .int .i64 0, .int .i64 0, .int .i64 0, .int .i64 0, .int .i64 0, .int .i64 0, .int .i64 0, .int .i64 0, .int .i64 0, .int .i64 0, .int .i64 0, .int .i64 0, .int .i64 0], .array 5 70⟩ := by kernel_rfl
theorem ty90 : ATy.of Try.prog 90 = some ⟨4, 32, [.int .i64 0, .int .i64 0, .int .i64 0, .int .i64 0], .array 4 3⟩ := by kernel_rfl
theorem ty91 : ATy.of Try.prog 91 = some ⟨1, 8, [.nilFunc], .other⟩ := by kernel_rfl
theorem ty92 : ATy.of Try.prog 92 = some ⟨1, 8, [.nilFunc], .other⟩ := by kernel_rfl
theorem ty93 : ATy.of Try.prog 93 = some ⟨4, 40, [.pointer none, .pointer none, .pointer none, .string ⟨#[]⟩], .struct [(0, 17), (1, 17), (2, 17), (3, 9)]⟩ := by kernel_rfl
theorem ty94 : ATy.of Try.prog 94 = some ⟨4, 40, [.pointer none, .pointer none, .pointer none, .string ⟨#[]⟩], .struct [(0, 17), (1, 17), (2, 17), (3, 9)]⟩ := by kernel_rfl
theorem ty95 : ATy.of Try.prog 95 = some ⟨0, 0, [], .array 0 16⟩ := by kernel_rfl
theorem ty96 : ATy.of Try.prog 96 = some ⟨0, 0, [], .struct [(0, 95)]⟩ := by kernel_rfl
theorem ty97 : ATy.of Try.prog 97 = some ⟨0, 0, [], .struct [(0, 95)]⟩ := by kernel_rfl
theorem ty98 : ATy.of Try.prog 98 = some ⟨1, 8, [.nilFunc], .other⟩ := by kernel_rfl
theorem ty99 : ATy.of Try.prog 99 = some ⟨1, 4, [.int .u32 0], .int⟩ := by kernel_rfl
theorem ty100 : ATy.of Try.prog 100 = some ⟨1, 1, [.int .u8 0], .int⟩ := by kernel_rfl
theorem ty101 : ATy.of Try.prog 101 = some ⟨1, 1, [.int .u8 0], .int⟩ := by kernel_rfl
theorem ty102 : ATy.of Try.prog 102 = some ⟨1, 8, [.nilFunc], .other⟩ := by kernel_rfl
theorem ty103 : ATy.of Try.prog 103 = some ⟨1, 8, [.pointer none], .other⟩ := by kernel_rfl
theorem ty104 : ATy.of Try.prog 104 = some ⟨1, 4, [.int .i32 0], .int⟩ := by kernel_rfl
theorem ty105 : ATy.of Try.prog 105 = some ⟨1, 4, [.int .i32 0], .int⟩ := by kernel_rfl
theorem ty106 : ATy.of Try.prog 106 = some ⟨11, 48, [.int .u64 0, .int .u64 0, .int .u32 0, .int .u8 0, .int .u8 0, .int .u8 0, .int .u8 0, .nilFunc, .pointer none, .int .i32 0, .int .i32 0], .struct [(0, 12), (1, 12), (2, 99), (3, 100), (4, 5), (5, 5), (6, 101), (7, 102), (8, 103), (9, 104), (10, 105)]⟩ := by kernel_rfl
theorem ty107 : ATy.of Try.prog 107 = some ⟨11, 48, [.int .u64 0, .int .u64 0, .int .u32 0, .int .u8 0, .int .u8 0, .int .u8 0, .int .u8 0, .nilFunc, .pointer none, .int .i32 0, .int .i32 0], .struct [(0, 12), (1, 12), (2, 99), (3, 100), (4, 5), (5, 5), (6, 101), (7, 102), (8, 103), (9, 104), (10, 105)]⟩ := by kernel_rfl
theorem ty108 : ATy.of Try.prog 108 = some ⟨1, 8, [.pointer none], .other⟩ := by kernel_rfl
attribute [go_sem] ty1 ty2 ty3 ty4 ty5 ty6 ty7 ty8 ty9 ty10 ty11 ty12 ty13 ty14 ty15 ty16 ty17 ty18 ty19 ty20 ty21 ty22 ty23 ty24 ty25 ty26 ty27 ty28 ty29 ty30 ty31 ty32 ty33 ty34 ty35 ty37 ty39 ty40 ty41 ty42 ty43 ty44 ty45 ty46 ty48 ty49 ty50 ty51 ty52 ty53 ty54 ty55 ty56 ty57 ty58 ty59 ty60 ty61 ty62 ty64 ty65 ty66 ty67 ty68 ty69 ty70 ty71 ty72 ty73 ty74 ty75 ty77 ty78 ty79 ty80 ty81 ty82 ty83 ty84 ty85 ty86 ty87 ty88 ty89 ty90 ty91 ty92 ty93 ty94 ty95 ty96 ty97 ty98 ty99 ty100 ty101 ty102 ty103 ty104 ty105 ty106 ty107 ty108 
attribute [go_sem] Try.underlying2 Try.underlying3 Try.underlying5 Try.underlying6 Try.underlying12 Try.underlying21 Try.underlying35 Try.underlying99 Try.underlying100 Try.underlying101 Try.underlying104 Try.underlying105 
end Go.Proofs.Ytkchihkmhojdnaa.Y

/- The language: expressions, statements, variables, programs, and how they lie in memory. -/
set_option linter.unusedVariables false
set_option linter.unusedSimpArgs false
namespace Go.Proofs.Ytkchihkmhojdnaa.AL

abbrev PV.i (n : Int) : PV := .sc (.int .i64 n)
abbrev AV.i (n : Int) : AV := .pv (.sc (.int .i64 n))
abbrev AV.b (t : Bool) : AV := .pv (.sc (.bool t))

inductive Ex where
  | mk (op n unit : Int) (kids : List Ex)
def Ex.op : Ex → Int | .mk a _ _ _ => a
def Ex.n : Ex → Int | .mk _ a _ _ => a
def Ex.unit : Ex → Int | .mk _ _ a _ => a
def Ex.kids : Ex → List Ex | .mk _ _ _ a => a

mutual
def encE : Ex → List PV
  | .mk op n u kids => [.i op, .i n, .i u, .rs 4 (encEs kids)]
def encEs : List Ex → List (List PV)
  | [] => []
  | e :: es => encE e :: encEs es
end
theorem encEs_map : ∀ l : List Ex, encEs l = l.map encE
  | [] => by simp [encEs]
  | e :: es => by simp [encEs, encEs_map es]
theorem encE_eq (e : Ex) : encE e = [.i e.op, .i e.n, .i e.unit, .rs 4 (e.kids.map encE)] := by
  cases e; simp [encE, encEs_map, Ex.op, Ex.n, Ex.unit, Ex.kids]
abbrev cE (e : Ex) : List PV := [.i e.op, .i e.n, .i e.unit, .rs 4 (e.kids.map encE)]
theorem encE_len (e : Ex) : (encE e).length = 4 := by rw [encE_eq]; rfl

inductive St where
  | mk (kind var rel : Int) (a b : Ex) (thn els : List St)
def St.kind : St → Int | .mk x _ _ _ _ _ _ => x
def St.var : St → Int | .mk _ x _ _ _ _ _ => x
def St.rel : St → Int | .mk _ _ x _ _ _ _ => x
def St.a : St → Ex | .mk _ _ _ x _ _ _ => x
def St.b : St → Ex | .mk _ _ _ _ x _ _ => x
def St.thn : St → List St | .mk _ _ _ _ _ x _ => x
def St.els : St → List St | .mk _ _ _ _ _ _ x => x

mutual
def encS : St → List PV
  | .mk k v r a b t e => [.i k, .i v, .i r, .i a.op, .i a.n, .i a.unit, .rs 4 (a.kids.map encE), .i b.op, .i b.n, .i b.unit, .rs 4 (b.kids.map encE), .rs 13 (encSs t), .rs 13 (encSs e)]
def encSs : List St → List (List PV)
  | [] => []
  | e :: es => encS e :: encSs es
end
theorem encSs_map : ∀ l : List St, encSs l = l.map encS
  | [] => by simp [encSs]
  | e :: es => by simp [encSs, encSs_map es]
theorem encS_eq (s : St) : encS s = [.i s.kind, .i s.var, .i s.rel, .i s.a.op, .i s.a.n, .i s.a.unit, .rs 4 (s.a.kids.map encE), .i s.b.op, .i s.b.n, .i s.b.unit, .rs 4 (s.b.kids.map encE), .rs 13 (s.thn.map encS), .rs 13 (s.els.map encS)] := by
  cases s; simp [encS, encSs_map, St.kind, St.var, St.rel, St.a, St.b, St.thn, St.els]
abbrev cS (s : St) : List PV := [.i s.kind, .i s.var, .i s.rel, .i s.a.op, .i s.a.n, .i s.a.unit, .rs 4 (s.a.kids.map encE), .i s.b.op, .i s.b.n, .i s.b.unit, .rs 4 (s.b.kids.map encE), .rs 13 (s.thn.map encS), .rs 13 (s.els.map encS)]
theorem encS_len (s : St) : (encS s).length = 13 := by rw [encS_eq]; rfl

structure Vr where
  name : ByteArray
  unit : Int
  low : Int
  high : Int
  init : Int
def encV (v : Vr) : List PV := [.sc (.string v.name), .i v.unit, .i v.low, .i v.high, .i v.init]

abbrev cV (v : Vr) : List PV := [.sc (.string v.name), .i v.unit, .i v.low, .i v.high, .i v.init]
theorem encV_eq (v : Vr) : encV v = cV v := rfl

structure Prg where
  name : ByteArray
  vars : List Vr
  on0 : List St
  on1 : List St
  on2 : List St
  on3 : List St
  on4 : List St
  window : Int
  pace : Int
def encP (p : Prg) : List PV := [.sc (.string p.name), .rs 5 (p.vars.map encV), .rs 13 (p.on0.map encS), .rs 13 (p.on1.map encS), .rs 13 (p.on2.map encS), .rs 13 (p.on3.map encS), .rs 13 (p.on4.map encS), .i p.window, .i p.pace]

abbrev cP (p : Prg) : List PV := [.sc (.string p.name), .rs 5 (p.vars.map encV), .rs 13 (p.on0.map encS), .rs 13 (p.on1.map encS), .rs 13 (p.on2.map encS), .rs 13 (p.on3.map encS), .rs 13 (p.on4.map encS), .i p.window, .i p.pace]
/-- An aggregate of pure values. -/
abbrev AV.ag (ps : List PV) : AV := .agg (ps.map AV.pv)
abbrev AV.rs (sz : Nat) (rows : List (List PV)) : AV := .pv (.rs sz rows)
theorem drop_cons {α : Type} {l : List α} {i : Nat} {x : α} {xs : List α} (h : l.drop i = x :: xs) : l[i]? = some x ∧ (i : Int) < (l.length : Int) ∧ l.drop (i + 1) = xs ∧ x ∈ l := by
  have h1 : l[i]? = some x := by
    have := congrArg (fun m => m[0]?) h
    simpa using this
  have h2 := (List.getElem?_eq_some_iff.1 h1).1
  refine ⟨h1, by omega, ?_, List.mem_of_getElem? h1⟩
  rw [← List.drop_drop, h]; rfl
theorem drop_nil {α : Type} {l : List α} {i : Nat} (h : l.drop i = []) : ¬ (i : Int) < (l.length : Int) := by
  have := List.drop_eq_nil_iff.1 h
  omega
end Go.Proofs.Ytkchihkmhojdnaa.AL

/- Plain laws: sizes of expressions. -/
set_option linter.unusedVariables false
namespace Go.Proofs.Ytkchihkmhojdnaa.AL

theorem Ex.ind {p : Ex → Prop} (h : ∀ e, (∀ k ∈ e.kids, p k) → p e) (e : Ex) : p e :=
  Ex.rec (motive_1 := p) (motive_2 := fun l => ∀ k ∈ l, p k) (fun op n u kids ih => h _ ih) (fun k hk => by cases hk)
    (fun e es h1 h2 k hk => by rcases List.mem_cons.1 hk with rfl | hk; exact h1; exact h2 k hk) e
theorem St.ind {p : St → Prop} (h : ∀ s, (∀ k ∈ s.thn, p k) → (∀ k ∈ s.els, p k) → p s) (s : St) : p s :=
  St.rec (motive_1 := p) (motive_2 := fun l => ∀ k ∈ l, p k) (fun _ _ _ _ _ t e ih1 ih2 => h _ ih1 ih2) (fun k hk => by cases hk)
    (fun e es h1 h2 k hk => by rcases List.mem_cons.1 hk with rfl | hk; exact h1; exact h2 k hk) s

mutual
def size : Ex → Int → Int
  | .mk _ _ _ kids, b => sizeL kids b 1
def sizeL : List Ex → Int → Int → Int
  | [], _, n => n
  | e :: es, b, n => if n ≤ b then sizeL es b (n + size e (b - n)) else n
end
theorem size_eq (e : Ex) (b : Int) : size e b = sizeL e.kids b 1 := by cases e; simp [size, Ex.kids]

theorem size_bd (e : Ex) : ∀ b, 1 ≤ size e b ∧ (size e b ≤ 1 ∨ size e b ≤ b + 1) := by
  induction e using Ex.ind with
  | h e ih =>
    intro b
    rw [size_eq]
    have key : ∀ l : List Ex, (∀ k ∈ l, ∀ b, 1 ≤ size k b ∧ (size k b ≤ 1 ∨ size k b ≤ b + 1)) → ∀ n, 1 ≤ n → n ≤ sizeL l b n ∧ (sizeL l b n ≤ n ∨ sizeL l b n ≤ b + 1) := by
      intro l
      induction l with
      | nil => intro _ n hn; simp [sizeL]
      | cons x xs ihl =>
        intro h n hn
        simp only [sizeL]
        split
        · have h1 := h x (by simp) (b - n)
          have h2 := ihl (fun k hk => h k (by simp [hk])) (n + size x (b - n)) (by omega)
          omega
        · omega
    have := key e.kids ih 1 (by omega)
    omega

-- All nodes of an expression.
mutual
def nodes : Ex → Nat
  | .mk _ _ _ kids => 1 + nodesL kids
def nodesL : List Ex → Nat
  | [] => 0
  | e :: es => nodes e + nodesL es
end
theorem nodes_eq (e : Ex) : nodes e = 1 + nodesL e.kids := by cases e; simp [nodes, Ex.kids]

theorem size_nodes (e : Ex) : ∀ b : Int, ((nodes e : Int) ≤ b ∨ (nodes e = 1) → size e b = nodes e) ∧ (b < nodes e → b < size e b ∨ b < 1) := by
  induction e using Ex.ind with
  | h e ih =>
    intro b
    rw [size_eq, nodes_eq]
    have key : ∀ l : List Ex, (∀ k ∈ l, ∀ b : Int, ((nodes k : Int) ≤ b ∨ (nodes k = 1) → size k b = nodes k) ∧ (b < nodes k → b < size k b ∨ b < 1)) → ∀ n : Int, 1 ≤ n →
        ((n + nodesL l ≤ b → sizeL l b n = n + nodesL l) ∧ (b < n + nodesL l → n ≤ b → b < sizeL l b n) ∧ (b < n → sizeL l b n = n)) := by
      intro l
      induction l with
      | nil => intro _ n hn; exact ⟨fun _ => by simp [sizeL, nodesL], fun h1 h2 => by simp only [nodesL] at h1; omega, fun _ => by simp [sizeL]⟩
      | cons x xs ihl =>
        intro h n hn
        have h1 := h x (by simp) (b - n)
        have h2 := ihl (fun k hk => h k (by simp [hk])) (n + size x (b - n)) (by have := size_bd x (b - n); omega)
        have h3 := size_bd x (b - n)
        have h4 : 1 ≤ nodes x := by rw [nodes_eq]; omega
        simp only [sizeL, nodesL]
        split
        · refine ⟨?_, ?_, ?_⟩
          · intro hle
            have e1 := h1.1 (by omega)
            rw [h2.1 (by omega)]; omega
          · intro hlt hnb
            by_cases hx : (nodes x : Int) ≤ b - n
            · have e1 := h1.1 (.inl hx)
              by_cases hy : n + size x (b - n) ≤ b
              · exact h2.2.1 (by omega) hy
              · rw [h2.2.2 (by omega)]; omega
            · have := h1.2 (by omega)
              rw [h2.2.2 (by omega)]; omega
          · omega
        · refine ⟨?_, ?_, ?_⟩ <;> intros <;> omega
    have hk := key e.kids ih 1 (by omega)
    cases hl : e.kids with
    | nil => simp only [sizeL, nodesL]; omega
    | cons x xs =>
      rw [hl] at hk
      have h4 : 1 ≤ nodesL (x :: xs) := by simp only [nodesL]; have : 1 ≤ nodes x := by rw [nodes_eq]; omega
                                           omega
      refine ⟨fun h => ?_, fun h => ?_⟩
      · rw [hk.1 (by omega)]; omega
      · by_cases hb : 1 ≤ b
        · exact .inl (hk.2.1 (by omega) hb)
        · exact .inr (by omega)

/-- The bound of 'Size'. -/
theorem size_gt (e : Ex) (b : Int) (hb : 1 ≤ b) : b < size e b ↔ b < nodes e := by
  have := size_nodes e b
  constructor
  · intro h
    rcases Int.lt_or_le b (nodes e) with h' | h'
    · exact h'
    · rw [this.1 (.inl h')] at h; omega
  · intro h; have := this.2 h; omega
end Go.Proofs.Ytkchihkmhojdnaa.AL

set_option linter.unusedVariables false
set_option linter.unusedSimpArgs false
namespace Go.Proofs.Ytkchihkmhojdnaa.Y
open Go.Proofs.Ytkchihkmhojdnaa.AL Go.Proofs Go

theorem parts_run (e : Ex) (H0 : List AObj) : ARun Try.prog 31 [.ag (cE e)] H0 (.ret (.rs 4 (e.kids.map encE)) H0) := by
  (refine ARun.intro Try.func31 rfl Try.call31 Try.ntmps31 Try.results31 ?_; simp only [List.length_cons, List.length_nil, List.length_map, Nat.reduceAdd, Nat.reduceSub, List.replicate_succ, List.replicate_zero, List.cons_append, List.nil_append])
  repeat' (first | refine awp_seq ?_ | refine awp_block ?_ | ((first | refine awp_region_k fun Kn Kp hn hp => ?_) <;> (simp only [go_sem, Nat.reduceAdd, Nat.reduceSub, Nat.reduceMul, Nat.reduceLeDiff, Nat.reduceLT, Nat.reduceEqDiff, Int.reduceToNat, Int.reduceAdd, Int.reduceMul, Int.reduceSub, Int.reduceLT, Int.reduceLE, Int.reduceEq, Int.reduceNeg, Int.reduceBEq, Int.reduceBNe, ↓reduceIte, reduceCtorEq] <;> try simp (disch := omega) only [wrap_of])) | (refine hn _ _ ?_; clear hn hp Kn Kp) | (refine hp _ _ _ ?_; clear hn hp Kn Kp) | (refine awp_cond rfl (fun hb => ?_) (fun hb => ?_) <;> (try simp only [decide_eq_true_eq, decide_eq_false_iff_not, Bool.not_eq_true', Bool.not_eq_false', Bool.true_eq_false, Bool.false_eq_true, beq_iff_eq, bne_iff_ne, bne_eq_false_iff_eq, beq_eq_false_iff_ne, gt_iff_lt, ge_iff_le, Int.reduceEq, Int.reduceNe, Int.reduceLT, Int.reduceLE, ne_eq, not_true_eq_false, not_false_eq_true] at hb)) | ((first | refine awg_split (fun hb => ?_) (fun hb => ?_)) <;> have hb0 := hb <;> (try simp only [decide_eq_true_eq, decide_eq_false_iff_not, Bool.not_eq_true', Bool.not_eq_false', Bool.true_eq_false, Bool.false_eq_true, beq_iff_eq, bne_iff_ne, bne_eq_false_iff_eq, beq_eq_false_iff_ne, gt_iff_lt, ge_iff_le, Int.reduceEq, Int.reduceNe, Int.reduceLT, Int.reduceLE, ne_eq, not_true_eq_false, not_false_eq_true] at hb0) <;> (try simp only [beq_true, beq_false, Bool.not_eq_true', Bool.not_eq_false'] at hb) <;> (simp only [go_sem, Nat.reduceAdd, Nat.reduceSub, Nat.reduceMul, Nat.reduceLeDiff, Nat.reduceLT, Nat.reduceEqDiff, Int.reduceToNat, Int.reduceAdd, Int.reduceMul, Int.reduceSub, Int.reduceLT, Int.reduceLE, Int.reduceEq, Int.reduceNeg, Int.reduceBEq, Int.reduceBNe, ↓reduceIte, reduceCtorEq, hb, hb0] <;> try simp (disch := omega) only [wrap_of])) | refine awp_skip ?_ | refine awp_ret ?_ | refine awp_exit ?_ | refine awp_label ?_ | refine awloop_step ?_ | fail)
  ((try simp only [go_sem, Nat.reduceAdd, Nat.reduceSub, Nat.reduceMul, Nat.reduceLeDiff, Nat.reduceLT, Nat.reduceEqDiff, Int.reduceToNat, Int.reduceAdd, Int.reduceMul, Int.reduceSub, Int.reduceLT, Int.reduceLE, Int.reduceEq, Int.reduceNeg, Int.reduceBEq, Int.reduceBNe, ↓reduceIte, reduceCtorEq]); (first | refine ⟨_, rfl, _, rfl, Fin.pure0 0 ?_⟩ | refine ⟨_, rfl, _, rfl, Fin.pure 1 ?_⟩); simp only [AV.low, List.map_cons, List.map_nil, aOne, aev, List.getElem?_cons_zero, List.getElem?_cons_succ, Option.getD_some, List.length_append, List.length_cons, List.length_nil, Nat.lt_irrefl, if_false]; try rfl)

theorem Size_run (e : Ex) : ∀ (b : Int) (H0 : List AObj), -1000000 ≤ b → b ≤ 1000000 → ARun Try.prog 11 [.ag (cE e), .i b] H0 (.ret (.i (size e b)) H0) := by
  induction e using Ex.ind with
  | h e ih =>
    intro b H0 hb1 hb2
    (refine ARun.intro Try.func11 rfl Try.call11 Try.ntmps11 Try.results11 ?_; simp only [List.length_cons, List.length_nil, List.length_map, Nat.reduceAdd, Nat.reduceSub, List.replicate_succ, List.replicate_zero, List.cons_append, List.nil_append])
    refine awp_len_agg 0 3 rfl rfl fun hlen => ?_
    rw [List.length_map] at hlen
    repeat' (first | refine awp_seq ?_ | refine awp_block ?_ | ((first | refine awp_region_k fun Kn Kp hn hp => ?_) <;> (simp only [go_sem, Nat.reduceAdd, Nat.reduceSub, Nat.reduceMul, Nat.reduceLeDiff, Nat.reduceLT, Nat.reduceEqDiff, Int.reduceToNat, Int.reduceAdd, Int.reduceMul, Int.reduceSub, Int.reduceLT, Int.reduceLE, Int.reduceEq, Int.reduceNeg, Int.reduceBEq, Int.reduceBNe, ↓reduceIte, reduceCtorEq] <;> try simp (disch := omega) only [wrap_of])) | (refine hn _ _ ?_; clear hn hp Kn Kp) | (refine hp _ _ _ ?_; clear hn hp Kn Kp) | (refine awp_cond rfl (fun hb => ?_) (fun hb => ?_) <;> (try simp only [decide_eq_true_eq, decide_eq_false_iff_not, Bool.not_eq_true', Bool.not_eq_false', Bool.true_eq_false, Bool.false_eq_true, beq_iff_eq, bne_iff_ne, bne_eq_false_iff_eq, beq_eq_false_iff_ne, gt_iff_lt, ge_iff_le, Int.reduceEq, Int.reduceNe, Int.reduceLT, Int.reduceLE, ne_eq, not_true_eq_false, not_false_eq_true] at hb)) | ((first | refine awg_split (fun hb => ?_) (fun hb => ?_)) <;> have hb0 := hb <;> (try simp only [decide_eq_true_eq, decide_eq_false_iff_not, Bool.not_eq_true', Bool.not_eq_false', Bool.true_eq_false, Bool.false_eq_true, beq_iff_eq, bne_iff_ne, bne_eq_false_iff_eq, beq_eq_false_iff_ne, gt_iff_lt, ge_iff_le, Int.reduceEq, Int.reduceNe, Int.reduceLT, Int.reduceLE, ne_eq, not_true_eq_false, not_false_eq_true] at hb0) <;> (try simp only [beq_true, beq_false, Bool.not_eq_true', Bool.not_eq_false'] at hb) <;> (simp only [go_sem, Nat.reduceAdd, Nat.reduceSub, Nat.reduceMul, Nat.reduceLeDiff, Nat.reduceLT, Nat.reduceEqDiff, Int.reduceToNat, Int.reduceAdd, Int.reduceMul, Int.reduceSub, Int.reduceLT, Int.reduceLE, Int.reduceEq, Int.reduceNeg, Int.reduceBEq, Int.reduceBNe, ↓reduceIte, reduceCtorEq, hb, hb0] <;> try simp (disch := omega) only [wrap_of])) | refine awp_skip ?_ | refine awp_ret ?_ | refine awp_exit ?_ | refine awp_label ?_ | refine awloop_step ?_ | fail)
    refine awp_loop_ind (σ := Nat × Int) (fun s => e.kids.length - s.1) (fun s => 1 ≤ s.2 ∧ (s.2 ≤ 1 ∨ s.2 ≤ b + 1) ∧ sizeL (e.kids.drop s.1) b s.2 = size e b)
      (fun s => (.any :: .i b :: .p H0.length 0 :: .any :: .any :: .i s.2 :: .i s.1 :: .any :: .any :: .any :: .any :: .any :: .any :: .any :: .any :: .any :: .any :: .any :: .any :: .any :: .any :: .any :: .any :: .any :: .any :: .any :: .any :: .any :: .any :: .any :: .any :: []))
      (fun s => H0 ++ [.cells 29 [.i e.op, .i e.n, .i e.unit, .rs 4 (e.kids.map encE)]]) (0, 1) ⟨by omega, by omega, by rw [size_eq]; rfl⟩ (by (refine Wk.fgt ?_; simp only [Fgt, List.length_nil, List.set_cons_zero, List.set_cons_succ, Int.natCast_zero, Int.cast_ofNat_Int, Int.ofNat_eq_natCast, true_or, or_true, true_and, and_true, and_self, eq_self])) ?_
    rintro ⟨i, n⟩ ⟨h2, h3, h4⟩
    simp only at h2 h3 h4 ⊢
    cases hr : e.kids.drop i with
    | nil =>
      have hlt := drop_nil hr
      rw [hr, sizeL] at h4
      repeat' (first | refine awp_seq ?_ | refine awp_block ?_ | ((first | refine awp_region_k fun Kn Kp hn hp => ?_) <;> (simp only [go_sem, Nat.reduceAdd, Nat.reduceSub, Nat.reduceMul, Nat.reduceLeDiff, Nat.reduceLT, Nat.reduceEqDiff, Int.reduceToNat, Int.reduceAdd, Int.reduceMul, Int.reduceSub, Int.reduceLT, Int.reduceLE, Int.reduceEq, Int.reduceNeg, Int.reduceBEq, Int.reduceBNe, ↓reduceIte, reduceCtorEq, hlt] <;> try simp (disch := omega) only [wrap_of])) | (refine hn _ _ ?_; clear hn hp Kn Kp) | (refine hp _ _ _ ?_; clear hn hp Kn Kp) | (refine awp_cond rfl (fun hb => ?_) (fun hb => ?_) <;> (try simp only [decide_eq_true_eq, decide_eq_false_iff_not, Bool.not_eq_true', Bool.not_eq_false', Bool.true_eq_false, Bool.false_eq_true, beq_iff_eq, bne_iff_ne, bne_eq_false_iff_eq, beq_eq_false_iff_ne, gt_iff_lt, ge_iff_le, Int.reduceEq, Int.reduceNe, Int.reduceLT, Int.reduceLE, ne_eq, not_true_eq_false, not_false_eq_true] at hb)) | ((first | refine awg_split (fun hb => ?_) (fun hb => ?_)) <;> have hb0 := hb <;> (try simp only [decide_eq_true_eq, decide_eq_false_iff_not, Bool.not_eq_true', Bool.not_eq_false', Bool.true_eq_false, Bool.false_eq_true, beq_iff_eq, bne_iff_ne, bne_eq_false_iff_eq, beq_eq_false_iff_ne, gt_iff_lt, ge_iff_le, Int.reduceEq, Int.reduceNe, Int.reduceLT, Int.reduceLE, ne_eq, not_true_eq_false, not_false_eq_true] at hb0) <;> (try simp only [beq_true, beq_false, Bool.not_eq_true', Bool.not_eq_false'] at hb) <;> (simp only [go_sem, Nat.reduceAdd, Nat.reduceSub, Nat.reduceMul, Nat.reduceLeDiff, Nat.reduceLT, Nat.reduceEqDiff, Int.reduceToNat, Int.reduceAdd, Int.reduceMul, Int.reduceSub, Int.reduceLT, Int.reduceLE, Int.reduceEq, Int.reduceNeg, Int.reduceBEq, Int.reduceBNe, ↓reduceIte, reduceCtorEq, hlt, hb, hb0] <;> try simp (disch := omega) only [wrap_of])) | refine awp_skip ?_ | refine awp_ret ?_ | refine awp_exit ?_ | refine awp_label ?_ | refine awloop_step ?_ | fail)
      ((try simp only [go_sem, Nat.reduceAdd, Nat.reduceSub, Nat.reduceMul, Nat.reduceLeDiff, Nat.reduceLT, Nat.reduceEqDiff, Int.reduceToNat, Int.reduceAdd, Int.reduceMul, Int.reduceSub, Int.reduceLT, Int.reduceLE, Int.reduceEq, Int.reduceNeg, Int.reduceBEq, Int.reduceBNe, ↓reduceIte, reduceCtorEq]); (first | refine ⟨_, rfl, _, rfl, Fin.pure0 0 ?_⟩ | refine ⟨_, rfl, _, rfl, Fin.pure 1 ?_⟩); simp only [AV.low, List.map_cons, List.map_nil, aOne, aev, List.getElem?_cons_zero, List.getElem?_cons_succ, Option.getD_some, List.length_append, List.length_cons, List.length_nil, Nat.lt_irrefl, if_false]; try rfl)
      rw [h4]
    | cons k rest =>
      obtain ⟨hk, hlt, hd, hm⟩ := drop_cons hr
      rw [hr, sizeL] at h4
      have hz := size_bd k (b - n)
      repeat' (first | refine awp_seq ?_ | refine awp_block ?_ | ((first | refine awp_region_k fun Kn Kp hn hp => ?_ | refine awe_intro (ih k hm _ _ (by omega) (by omega)) ?_) <;> (simp only [go_sem, Nat.reduceAdd, Nat.reduceSub, Nat.reduceMul, Nat.reduceLeDiff, Nat.reduceLT, Nat.reduceEqDiff, Int.reduceToNat, Int.reduceAdd, Int.reduceMul, Int.reduceSub, Int.reduceLT, Int.reduceLE, Int.reduceEq, Int.reduceNeg, Int.reduceBEq, Int.reduceBNe, ↓reduceIte, reduceCtorEq, hlt, hk, encE_eq] <;> try simp (disch := omega) only [wrap_of])) | (refine hn _ _ ?_; clear hn hp Kn Kp) | (refine hp _ _ _ ?_; clear hn hp Kn Kp) | (refine awp_cond rfl (fun hb => ?_) (fun hb => ?_) <;> (try simp only [decide_eq_true_eq, decide_eq_false_iff_not, Bool.not_eq_true', Bool.not_eq_false', Bool.true_eq_false, Bool.false_eq_true, beq_iff_eq, bne_iff_ne, bne_eq_false_iff_eq, beq_eq_false_iff_ne, gt_iff_lt, ge_iff_le, Int.reduceEq, Int.reduceNe, Int.reduceLT, Int.reduceLE, ne_eq, not_true_eq_false, not_false_eq_true] at hb)) | ((first | refine awg_split (fun hb => ?_) (fun hb => ?_)) <;> have hb0 := hb <;> (try simp only [decide_eq_true_eq, decide_eq_false_iff_not, Bool.not_eq_true', Bool.not_eq_false', Bool.true_eq_false, Bool.false_eq_true, beq_iff_eq, bne_iff_ne, bne_eq_false_iff_eq, beq_eq_false_iff_ne, gt_iff_lt, ge_iff_le, Int.reduceEq, Int.reduceNe, Int.reduceLT, Int.reduceLE, ne_eq, not_true_eq_false, not_false_eq_true] at hb0) <;> (try simp only [beq_true, beq_false, Bool.not_eq_true', Bool.not_eq_false'] at hb) <;> (simp only [go_sem, Nat.reduceAdd, Nat.reduceSub, Nat.reduceMul, Nat.reduceLeDiff, Nat.reduceLT, Nat.reduceEqDiff, Int.reduceToNat, Int.reduceAdd, Int.reduceMul, Int.reduceSub, Int.reduceLT, Int.reduceLE, Int.reduceEq, Int.reduceNeg, Int.reduceBEq, Int.reduceBNe, ↓reduceIte, reduceCtorEq, hlt, hk, encE_eq, hb, hb0] <;> try simp (disch := omega) only [wrap_of])) | refine awp_skip ?_ | refine awp_ret ?_ | refine awp_exit ?_ | refine awp_label ?_ | refine awloop_step ?_ | fail)
      · refine ⟨(i + 1, n + size k (b - n)), by simp only; omega, ⟨by omega, by omega, by rw [hd]; rw [if_pos hb] at h4; exact h4⟩, ?_⟩
        (refine Wk.fgt ?_; simp only [Fgt, List.length_nil, List.set_cons_zero, List.set_cons_succ, Int.natCast_zero, Int.cast_ofNat_Int, Int.ofNat_eq_natCast, true_or, or_true, true_and, and_true, and_self, eq_self])
        simp [wrap_of (n := (i : Int) + 1) (by omega) (by omega)]
      · ((try simp only [go_sem, Nat.reduceAdd, Nat.reduceSub, Nat.reduceMul, Nat.reduceLeDiff, Nat.reduceLT, Nat.reduceEqDiff, Int.reduceToNat, Int.reduceAdd, Int.reduceMul, Int.reduceSub, Int.reduceLT, Int.reduceLE, Int.reduceEq, Int.reduceNeg, Int.reduceBEq, Int.reduceBNe, ↓reduceIte, reduceCtorEq]); (first | refine ⟨_, rfl, _, rfl, Fin.pure0 0 ?_⟩ | refine ⟨_, rfl, _, rfl, Fin.pure 1 ?_⟩); simp only [AV.low, List.map_cons, List.map_nil, aOne, aev, List.getElem?_cons_zero, List.getElem?_cons_succ, Option.getD_some, List.length_append, List.length_cons, List.length_nil, Nat.lt_irrefl, if_false]; try rfl)
        rw [if_neg hb] at h4
        rw [h4]
end Go.Proofs.Ytkchihkmhojdnaa.Y

/- Plain laws: counts. -/
set_option linter.unusedVariables false
namespace Go.Proofs.Ytkchihkmhojdnaa.AL

mutual
def cntE : Ex → Int → Int
  | .mk _ _ _ kids, b => cntEL kids b 0
def cntEL : List Ex → Int → Int → Int
  | [], _, n => n
  | e :: es, b, n => if n > b then n else cntEL es b (n + (1 + cntE e (b - n)))
end
theorem cntE_eq (e : Ex) (b : Int) : cntE e b = cntEL e.kids b 0 := by cases e; simp [cntE, Ex.kids]
theorem cntE_bd (e : Ex) : ∀ b, 0 ≤ cntE e b ∧ cntE e b + 1 ≤ nodes e := by
  induction e using Ex.ind with
  | h e ih =>
    intro b
    rw [cntE_eq, nodes_eq]
    have key : ∀ l : List Ex, (∀ k ∈ l, ∀ b, 0 ≤ cntE k b ∧ cntE k b + 1 ≤ nodes k) → ∀ n, n ≤ cntEL l b n ∧ cntEL l b n ≤ n + nodesL l := by
      intro l
      induction l with
      | nil => intro _ n; simp [cntEL, nodesL]
      | cons x xs ihl =>
        intro h n
        simp only [cntEL, nodesL]
        have h1 := h x (by simp) (b - n)
        split
        · omega
        · have h2 := ihl (fun k hk => h k (by simp [hk])) (n + (1 + cntE x (b - n)))
          omega
    have := key e.kids ih 0
    omega
theorem cntEL_bd (l : List Ex) (b : Int) : ∀ n, n ≤ cntEL l b n ∧ cntEL l b n ≤ n + nodesL l := by
  induction l with
  | nil => intro n; simp [cntEL, nodesL]
  | cons x xs ihl =>
    intro n
    simp only [cntEL, nodesL]
    have h1 := cntE_bd x (b - n)
    split
    · omega
    · have h2 := ihl (n + (1 + cntE x (b - n)))
      omega
/-- Count and nodes. -/
theorem cntE_nodes (e : Ex) : ∀ b : Int, 0 ≤ b → ((nodes e : Int) ≤ b + 1 → cntE e b + 1 = nodes e) ∧ (b + 1 < nodes e → b < cntE e b) := by
  induction e using Ex.ind with
  | h e ih =>
    intro b hb
    rw [cntE_eq, nodes_eq]
    have key : ∀ l : List Ex, (∀ k ∈ l, ∀ b : Int, 0 ≤ b → ((nodes k : Int) ≤ b + 1 → cntE k b + 1 = nodes k) ∧ (b + 1 < nodes k → b < cntE k b)) → ∀ n : Int,
        (n + nodesL l ≤ b → cntEL l b n = n + nodesL l) ∧ (b < n + nodesL l → b < cntEL l b n) := by
      intro l
      induction l with
      | nil => intro _ n; simp only [cntEL, nodesL]; omega
      | cons x xs ihl =>
        intro h n
        have h4 := cntE_bd x (b - n)
        simp only [cntEL, nodesL]
        split
        · omega
        · have h1 := h x (by simp) (b - n) (by omega)
          have h2 := ihl (fun k hk => h k (by simp [hk])) (n + (1 + cntE x (b - n)))
          have h3 := cntEL_bd xs b (n + (1 + cntE x (b - n)))
          constructor
          · intro hle
            have := h1.1 (by omega)
            rw [h2.1 (by omega)]; omega
          · intro hlt
            by_cases hx : (nodes x : Int) ≤ b - n + 1
            · have e1 := h1.1 hx
              exact h2.2 (by omega)
            · have := h1.2 (by omega)
              omega
    have hk := key e.kids ih 0
    constructor
    · intro h; rw [hk.1 (by omega)]; omega
    · intro h; exact hk.2 (by omega)
theorem cnt1 (e : Ex) (b : Int) (hb : 0 ≤ b) : cntEL [e] b 0 > b ↔ b < nodes e := by
  have h1 := cntE_nodes e b hb
  have h2 := cntE_bd e b
  simp only [cntEL, Int.sub_zero]
  rw [if_neg (by omega)]
  omega
theorem nodesL_mem {l : List Ex} {k : Ex} (h : k ∈ l) : nodesL k.kids + 1 ≤ nodesL l := by
  induction l with
  | nil => cases h
  | cons x xs ih =>
    simp only [nodesL]
    rcases List.mem_cons.1 h with rfl | h
    · rw [nodes_eq]; omega
    · have := ih h; omega
theorem nodes_mem {l : List Ex} {k : Ex} (h : k ∈ l) : nodes k ≤ nodesL l := by
  induction l with
  | nil => cases h
  | cons x xs ih =>
    simp only [nodesL]
    rcases List.mem_cons.1 h with rfl | h
    · omega
    · have := ih h; omega
theorem len_nodesL (l : List Ex) : l.length ≤ nodesL l := by
  induction l with
  | nil => simp
  | cons x xs ih => simp only [List.length_cons, nodesL]; rw [nodes_eq]; omega

/-! ### statements -/
def innerL (s : St) : List St := if s.kind = 2 then s.thn ++ s.els else []
mutual
def many : St → Nat
  | .mk k _ _ _ _ t e => 1 + (if k = 2 then manyL t + manyL e else 0)
def manyL : List St → Nat
  | [] => 0
  | s :: ss => many s + manyL ss
end
theorem many_eq (s : St) : many s = 1 + (if s.kind = 2 then manyL s.thn + manyL s.els else 0) := by cases s; rw [many]; rfl
theorem manyL_append (l m : List St) : manyL (l ++ m) = manyL l + manyL m := by
  induction l with
  | nil => simp [manyL]
  | cons x xs ih => simp only [List.cons_append, manyL, ih]; omega
theorem many_inner (s : St) : many s = 1 + manyL (innerL s) := by
  rw [many_eq]; unfold innerL; split
  · rw [manyL_append]
  · simp [manyL]
mutual
def cntS : St → Int → Int
  | .mk k _ _ _ _ t e, b => if k = 2 then cntSL e b (cntSL t b 0) else 0
def cntSL : List St → Int → Int → Int
  | [], _, n => n
  | s :: ss, b, n => if n > b then n else cntSL ss b (n + (1 + cntS s (b - n)))
end
theorem cntSL_big (l : List St) (b n : Int) (h : n > b) : cntSL l b n = n := by
  cases l with
  | nil => simp [cntSL]
  | cons x xs => simp [cntSL, h]
theorem cntSL_append (l m : List St) (b : Int) : ∀ n, cntSL (l ++ m) b n = cntSL m b (cntSL l b n) := by
  induction l with
  | nil => intro n; simp [cntSL]
  | cons x xs ih =>
    intro n
    simp only [List.cons_append, cntSL]
    split
    · rename_i h; rw [cntSL_big m b n h]
    · rw [ih]
theorem cntS_eq (s : St) (b : Int) : cntS s b = cntSL (innerL s) b 0 := by
  have : cntS s b = if s.kind = 2 then cntSL s.els b (cntSL s.thn b 0) else 0 := by cases s; rw [cntS]; rfl
  rw [this]; unfold innerL
  split
  · rw [cntSL_append]
  · simp [cntSL]
theorem St.indI {p : St → Prop} (h : ∀ s, (∀ k ∈ innerL s, p k) → p s) (s : St) : p s := by
  induction s using St.ind with
  | h s h1 h2 =>
    refine h s (fun k hk => ?_)
    unfold innerL at hk
    split at hk
    · rcases List.mem_append.1 hk with hk | hk
      · exact h1 k hk
      · exact h2 k hk
    · cases hk
theorem cntS_bd (s : St) : ∀ b, 0 ≤ cntS s b ∧ cntS s b + 1 ≤ many s := by
  induction s using St.indI with
  | h s ih =>
    intro b
    rw [cntS_eq, many_inner]
    have key : ∀ l : List St, (∀ k ∈ l, ∀ b, 0 ≤ cntS k b ∧ cntS k b + 1 ≤ many k) → ∀ n, n ≤ cntSL l b n ∧ cntSL l b n ≤ n + manyL l := by
      intro l
      induction l with
      | nil => intro _ n; simp [cntSL, manyL]
      | cons x xs ihl =>
        intro h n
        simp only [cntSL, manyL]
        have h1 := h x (by simp) (b - n)
        split
        · omega
        · have h2 := ihl (fun k hk => h k (by simp [hk])) (n + (1 + cntS x (b - n)))
          omega
    have := key (innerL s) ih 0
    omega
theorem cntSL_bd (l : List St) (b : Int) : ∀ n, n ≤ cntSL l b n ∧ cntSL l b n ≤ n + manyL l := by
  induction l with
  | nil => intro n; simp [cntSL, manyL]
  | cons x xs ihl =>
    intro n
    simp only [cntSL, manyL]
    have h1 := cntS_bd x (b - n)
    split
    · omega
    · have h2 := ihl (n + (1 + cntS x (b - n)))
      omega
theorem cntSL_many (l : List St) (b : Int) (hb : 0 ≤ b) : ((manyL l : Int) ≤ b → cntSL l b 0 = manyL l) ∧ (b < manyL l → b < cntSL l b 0) := by
  have keyS : ∀ s : St, ∀ b : Int, 0 ≤ b → ((many s : Int) ≤ b + 1 → cntS s b + 1 = many s) ∧ (b + 1 < many s → b < cntS s b) := by
    intro s
    induction s using St.indI with
    | h s ih =>
      intro b hb
      rw [cntS_eq, many_inner]
      have key : ∀ l : List St, (∀ k ∈ l, ∀ b : Int, 0 ≤ b → ((many k : Int) ≤ b + 1 → cntS k b + 1 = many k) ∧ (b + 1 < many k → b < cntS k b)) → ∀ n : Int,
          (n + manyL l ≤ b → cntSL l b n = n + manyL l) ∧ (b < n + manyL l → b < cntSL l b n) := by
        intro l
        induction l with
        | nil => intro _ n; simp only [cntSL, manyL]; omega
        | cons x xs ihl =>
          intro h n
          have h4 := cntS_bd x (b - n)
          simp only [cntSL, manyL]
          split
          · omega
          · have h1 := h x (by simp) (b - n) (by omega)
            have h2 := ihl (fun k hk => h k (by simp [hk])) (n + (1 + cntS x (b - n)))
            have h3 := cntSL_bd xs b (n + (1 + cntS x (b - n)))
            constructor
            · intro hle
              have := h1.1 (by omega)
              rw [h2.1 (by omega)]; omega
            · intro hlt
              by_cases hx : (many x : Int) ≤ b - n + 1
              · have e1 := h1.1 hx
                exact h2.2 (by omega)
              · have := h1.2 (by omega)
                omega
      have hk := key (innerL s) ih 0
      constructor
      · intro h; rw [hk.1 (by omega)]; omega
      · intro h; exact hk.2 (by omega)
  have key : ∀ (l : List St) (n : Int), (n + manyL l ≤ b → cntSL l b n = n + manyL l) ∧ (b < n + manyL l → b < cntSL l b n) := by
    intro l
    induction l with
    | nil => intro n; simp only [cntSL, manyL]; omega
    | cons x xs ihl =>
      intro n
      have h4 := cntS_bd x (b - n)
      simp only [cntSL, manyL]
      split
      · omega
      · have h1 := keyS x (b - n) (by omega)
        have h2 := ihl (n + (1 + cntS x (b - n)))
        have h3 := cntSL_bd xs b (n + (1 + cntS x (b - n)))
        constructor
        · intro hle
          have := h1.1 (by omega)
          rw [h2.1 (by omega)]; omega
        · intro hlt
          by_cases hx : (many x : Int) ≤ b - n + 1
          · have e1 := h1.1 hx
            exact h2.2 (by omega)
          · have := h1.2 (by omega)
            omega
  have := key l 0
  omega
theorem manyL_mem {l : List St} {k : St} (h : k ∈ l) : manyL (innerL k) + 1 ≤ manyL l := by
  induction l with
  | nil => cases h
  | cons x xs ih =>
    simp only [manyL]
    rcases List.mem_cons.1 h with rfl | h
    · rw [many_inner]; omega
    · have := ih h; omega
theorem len_manyL (l : List St) : l.length ≤ manyL l := by
  induction l with
  | nil => simp
  | cons x xs ih => simp only [List.length_cons, manyL]; rw [many_inner]; omega
end Go.Proofs.Ytkchihkmhojdnaa.AL

set_option linter.unusedVariables false
set_option linter.unusedSimpArgs false
namespace Go.Proofs.Ytkchihkmhojdnaa.Y
open Go.Proofs.Ytkchihkmhojdnaa.AL Go.Proofs Go

theorem count_run : ∀ (N : Nat) (l : List Ex), nodesL l ≤ N → nodesL l ≤ 1000000 → ∀ (b : Int) (H0 : List AObj), 0 ≤ b → b ≤ 1000000 →
    ARun Try.prog 30 [.rs 4 (l.map encE), .fn (.func 31) [] [], .i b] H0 (.ret (.i (cntEL l b 0)) H0) := by
  intro N
  induction N with
  | zero =>
    intro l hN _ b H0 hb1 hb2
    have hl : l = [] := by have := len_nodesL l; exact List.eq_nil_of_length_eq_zero (by omega)
    subst hl
    (refine ARun.intro Try.func30 rfl Try.call30 Try.ntmps30 Try.results30 ?_; simp only [List.length_cons, List.length_nil, List.length_map, Nat.reduceAdd, Nat.reduceSub, List.replicate_succ, List.replicate_zero, List.cons_append, List.nil_append])
    repeat' (first | refine awp_seq ?_ | refine awp_block ?_ | ((first | refine awp_region_k fun Kn Kp hn hp => ?_) <;> (simp only [go_sem, Nat.reduceAdd, Nat.reduceSub, Nat.reduceMul, Nat.reduceLeDiff, Nat.reduceLT, Nat.reduceEqDiff, Int.reduceToNat, Int.reduceAdd, Int.reduceMul, Int.reduceSub, Int.reduceLT, Int.reduceLE, Int.reduceEq, Int.reduceNeg, Int.reduceBEq, Int.reduceBNe, ↓reduceIte, reduceCtorEq] <;> try simp (disch := omega) only [wrap_of])) | (refine hn _ _ ?_; clear hn hp Kn Kp) | (refine hp _ _ _ ?_; clear hn hp Kn Kp) | (refine awp_cond rfl (fun hb => ?_) (fun hb => ?_) <;> (try simp only [decide_eq_true_eq, decide_eq_false_iff_not, Bool.not_eq_true', Bool.not_eq_false', Bool.true_eq_false, Bool.false_eq_true, beq_iff_eq, bne_iff_ne, bne_eq_false_iff_eq, beq_eq_false_iff_ne, gt_iff_lt, ge_iff_le, Int.reduceEq, Int.reduceNe, Int.reduceLT, Int.reduceLE, ne_eq, not_true_eq_false, not_false_eq_true] at hb)) | ((first | refine awg_split (fun hb => ?_) (fun hb => ?_)) <;> have hb0 := hb <;> (try simp only [decide_eq_true_eq, decide_eq_false_iff_not, Bool.not_eq_true', Bool.not_eq_false', Bool.true_eq_false, Bool.false_eq_true, beq_iff_eq, bne_iff_ne, bne_eq_false_iff_eq, beq_eq_false_iff_ne, gt_iff_lt, ge_iff_le, Int.reduceEq, Int.reduceNe, Int.reduceLT, Int.reduceLE, ne_eq, not_true_eq_false, not_false_eq_true] at hb0) <;> (try simp only [beq_true, beq_false, Bool.not_eq_true', Bool.not_eq_false'] at hb) <;> (simp only [go_sem, Nat.reduceAdd, Nat.reduceSub, Nat.reduceMul, Nat.reduceLeDiff, Nat.reduceLT, Nat.reduceEqDiff, Int.reduceToNat, Int.reduceAdd, Int.reduceMul, Int.reduceSub, Int.reduceLT, Int.reduceLE, Int.reduceEq, Int.reduceNeg, Int.reduceBEq, Int.reduceBNe, ↓reduceIte, reduceCtorEq, hb, hb0] <;> try simp (disch := omega) only [wrap_of])) | refine awp_skip ?_ | refine awp_ret ?_ | refine awp_exit ?_ | refine awp_label ?_ | refine awloop_step ?_ | fail)
    refine awp_loop 1 ?_
    unfold AWLoop
    repeat' (first | refine awp_seq ?_ | refine awp_block ?_ | ((first | refine awp_region_k fun Kn Kp hn hp => ?_) <;> (simp only [go_sem, Nat.reduceAdd, Nat.reduceSub, Nat.reduceMul, Nat.reduceLeDiff, Nat.reduceLT, Nat.reduceEqDiff, Int.reduceToNat, Int.reduceAdd, Int.reduceMul, Int.reduceSub, Int.reduceLT, Int.reduceLE, Int.reduceEq, Int.reduceNeg, Int.reduceBEq, Int.reduceBNe, ↓reduceIte, reduceCtorEq] <;> try simp (disch := omega) only [wrap_of])) | (refine hn _ _ ?_; clear hn hp Kn Kp) | (refine hp _ _ _ ?_; clear hn hp Kn Kp) | (refine awp_cond rfl (fun hb => ?_) (fun hb => ?_) <;> (try simp only [decide_eq_true_eq, decide_eq_false_iff_not, Bool.not_eq_true', Bool.not_eq_false', Bool.true_eq_false, Bool.false_eq_true, beq_iff_eq, bne_iff_ne, bne_eq_false_iff_eq, beq_eq_false_iff_ne, gt_iff_lt, ge_iff_le, Int.reduceEq, Int.reduceNe, Int.reduceLT, Int.reduceLE, ne_eq, not_true_eq_false, not_false_eq_true] at hb)) | ((first | refine awg_split (fun hb => ?_) (fun hb => ?_)) <;> have hb0 := hb <;> (try simp only [decide_eq_true_eq, decide_eq_false_iff_not, Bool.not_eq_true', Bool.not_eq_false', Bool.true_eq_false, Bool.false_eq_true, beq_iff_eq, bne_iff_ne, bne_eq_false_iff_eq, beq_eq_false_iff_ne, gt_iff_lt, ge_iff_le, Int.reduceEq, Int.reduceNe, Int.reduceLT, Int.reduceLE, ne_eq, not_true_eq_false, not_false_eq_true] at hb0) <;> (try simp only [beq_true, beq_false, Bool.not_eq_true', Bool.not_eq_false'] at hb) <;> (simp only [go_sem, Nat.reduceAdd, Nat.reduceSub, Nat.reduceMul, Nat.reduceLeDiff, Nat.reduceLT, Nat.reduceEqDiff, Int.reduceToNat, Int.reduceAdd, Int.reduceMul, Int.reduceSub, Int.reduceLT, Int.reduceLE, Int.reduceEq, Int.reduceNeg, Int.reduceBEq, Int.reduceBNe, ↓reduceIte, reduceCtorEq, hb, hb0] <;> try simp (disch := omega) only [wrap_of])) | refine awp_skip ?_ | refine awp_ret ?_ | refine awp_exit ?_ | refine awp_label ?_ | refine awloop_step ?_ | fail)
    ((try simp only [go_sem, Nat.reduceAdd, Nat.reduceSub, Nat.reduceMul, Nat.reduceLeDiff, Nat.reduceLT, Nat.reduceEqDiff, Int.reduceToNat, Int.reduceAdd, Int.reduceMul, Int.reduceSub, Int.reduceLT, Int.reduceLE, Int.reduceEq, Int.reduceNeg, Int.reduceBEq, Int.reduceBNe, ↓reduceIte, reduceCtorEq]); (first | refine ⟨_, rfl, _, rfl, Fin.pure0 0 ?_⟩ | refine ⟨_, rfl, _, rfl, Fin.pure 1 ?_⟩); simp only [AV.low, List.map_cons, List.map_nil, aOne, aev, List.getElem?_cons_zero, List.getElem?_cons_succ, Option.getD_some, List.length_append, List.length_cons, List.length_nil, Nat.lt_irrefl, if_false]; try rfl)
    all_goals simp [cntEL]
  | succ N ihN =>
    intro l hN hM b H0 hb1 hb2
    (refine ARun.intro Try.func30 rfl Try.call30 Try.ntmps30 Try.results30 ?_; simp only [List.length_cons, List.length_nil, List.length_map, Nat.reduceAdd, Nat.reduceSub, List.replicate_succ, List.replicate_zero, List.cons_append, List.nil_append])
    repeat' (first | refine awp_seq ?_ | refine awp_block ?_ | ((first | refine awp_region_k fun Kn Kp hn hp => ?_) <;> (simp only [go_sem, Nat.reduceAdd, Nat.reduceSub, Nat.reduceMul, Nat.reduceLeDiff, Nat.reduceLT, Nat.reduceEqDiff, Int.reduceToNat, Int.reduceAdd, Int.reduceMul, Int.reduceSub, Int.reduceLT, Int.reduceLE, Int.reduceEq, Int.reduceNeg, Int.reduceBEq, Int.reduceBNe, ↓reduceIte, reduceCtorEq] <;> try simp (disch := omega) only [wrap_of])) | (refine hn _ _ ?_; clear hn hp Kn Kp) | (refine hp _ _ _ ?_; clear hn hp Kn Kp) | (refine awp_cond rfl (fun hb => ?_) (fun hb => ?_) <;> (try simp only [decide_eq_true_eq, decide_eq_false_iff_not, Bool.not_eq_true', Bool.not_eq_false', Bool.true_eq_false, Bool.false_eq_true, beq_iff_eq, bne_iff_ne, bne_eq_false_iff_eq, beq_eq_false_iff_ne, gt_iff_lt, ge_iff_le, Int.reduceEq, Int.reduceNe, Int.reduceLT, Int.reduceLE, ne_eq, not_true_eq_false, not_false_eq_true] at hb)) | ((first | refine awg_split (fun hb => ?_) (fun hb => ?_)) <;> have hb0 := hb <;> (try simp only [decide_eq_true_eq, decide_eq_false_iff_not, Bool.not_eq_true', Bool.not_eq_false', Bool.true_eq_false, Bool.false_eq_true, beq_iff_eq, bne_iff_ne, bne_eq_false_iff_eq, beq_eq_false_iff_ne, gt_iff_lt, ge_iff_le, Int.reduceEq, Int.reduceNe, Int.reduceLT, Int.reduceLE, ne_eq, not_true_eq_false, not_false_eq_true] at hb0) <;> (try simp only [beq_true, beq_false, Bool.not_eq_true', Bool.not_eq_false'] at hb) <;> (simp only [go_sem, Nat.reduceAdd, Nat.reduceSub, Nat.reduceMul, Nat.reduceLeDiff, Nat.reduceLT, Nat.reduceEqDiff, Int.reduceToNat, Int.reduceAdd, Int.reduceMul, Int.reduceSub, Int.reduceLT, Int.reduceLE, Int.reduceEq, Int.reduceNeg, Int.reduceBEq, Int.reduceBNe, ↓reduceIte, reduceCtorEq, hb, hb0] <;> try simp (disch := omega) only [wrap_of])) | refine awp_skip ?_ | refine awp_ret ?_ | refine awp_exit ?_ | refine awp_label ?_ | refine awloop_step ?_ | fail)
    refine awp_loop_ind (σ := Nat × Int) (fun s => l.length - s.1) (fun s => 0 ≤ s.2 ∧ s.2 ≤ 1000000 ∧ cntEL (l.drop s.1) b s.2 = cntEL l b 0)
      (fun s => (.any :: (.fn (.func 31) [] []) :: .i b :: .any :: .any :: .any :: .any :: .i s.2 :: .any :: .any :: .rs 4 (l.map encE) :: .i l.length :: .i s.1 :: .any :: .any :: .any :: .any :: .any :: .any :: .any :: .any :: .any :: .any :: .any :: .any :: .any :: .any :: .any :: .any :: .any :: .any :: .any :: .any :: []))
      (fun s => H0) (0, 0) ⟨by simp, by simp, by simp⟩ (by (refine Wk.fgt ?_; simp only [Fgt, List.length_nil, List.set_cons_zero, List.set_cons_succ, Int.natCast_zero, Int.cast_ofNat_Int, Int.ofNat_eq_natCast, true_or, or_true, true_and, and_true, and_self, eq_self])) ?_
    rintro ⟨i, n⟩ ⟨h2, h3, h4⟩
    simp only at h2 h3 h4 ⊢
    have hlen := len_nodesL l
    cases hr : l.drop i with
    | nil =>
      have hlt := drop_nil hr
      rw [hr, cntEL] at h4
      repeat' (first | refine awp_seq ?_ | refine awp_block ?_ | ((first | refine awp_region_k fun Kn Kp hn hp => ?_) <;> (simp only [go_sem, Nat.reduceAdd, Nat.reduceSub, Nat.reduceMul, Nat.reduceLeDiff, Nat.reduceLT, Nat.reduceEqDiff, Int.reduceToNat, Int.reduceAdd, Int.reduceMul, Int.reduceSub, Int.reduceLT, Int.reduceLE, Int.reduceEq, Int.reduceNeg, Int.reduceBEq, Int.reduceBNe, ↓reduceIte, reduceCtorEq, hlt] <;> try simp (disch := omega) only [wrap_of])) | (refine hn _ _ ?_; clear hn hp Kn Kp) | (refine hp _ _ _ ?_; clear hn hp Kn Kp) | (refine awp_cond rfl (fun hb => ?_) (fun hb => ?_) <;> (try simp only [decide_eq_true_eq, decide_eq_false_iff_not, Bool.not_eq_true', Bool.not_eq_false', Bool.true_eq_false, Bool.false_eq_true, beq_iff_eq, bne_iff_ne, bne_eq_false_iff_eq, beq_eq_false_iff_ne, gt_iff_lt, ge_iff_le, Int.reduceEq, Int.reduceNe, Int.reduceLT, Int.reduceLE, ne_eq, not_true_eq_false, not_false_eq_true] at hb)) | ((first | refine awg_split (fun hb => ?_) (fun hb => ?_)) <;> have hb0 := hb <;> (try simp only [decide_eq_true_eq, decide_eq_false_iff_not, Bool.not_eq_true', Bool.not_eq_false', Bool.true_eq_false, Bool.false_eq_true, beq_iff_eq, bne_iff_ne, bne_eq_false_iff_eq, beq_eq_false_iff_ne, gt_iff_lt, ge_iff_le, Int.reduceEq, Int.reduceNe, Int.reduceLT, Int.reduceLE, ne_eq, not_true_eq_false, not_false_eq_true] at hb0) <;> (try simp only [beq_true, beq_false, Bool.not_eq_true', Bool.not_eq_false'] at hb) <;> (simp only [go_sem, Nat.reduceAdd, Nat.reduceSub, Nat.reduceMul, Nat.reduceLeDiff, Nat.reduceLT, Nat.reduceEqDiff, Int.reduceToNat, Int.reduceAdd, Int.reduceMul, Int.reduceSub, Int.reduceLT, Int.reduceLE, Int.reduceEq, Int.reduceNeg, Int.reduceBEq, Int.reduceBNe, ↓reduceIte, reduceCtorEq, hlt, hb, hb0] <;> try simp (disch := omega) only [wrap_of])) | refine awp_skip ?_ | refine awp_ret ?_ | refine awp_exit ?_ | refine awp_label ?_ | refine awloop_step ?_ | fail)
      ((try simp only [go_sem, Nat.reduceAdd, Nat.reduceSub, Nat.reduceMul, Nat.reduceLeDiff, Nat.reduceLT, Nat.reduceEqDiff, Int.reduceToNat, Int.reduceAdd, Int.reduceMul, Int.reduceSub, Int.reduceLT, Int.reduceLE, Int.reduceEq, Int.reduceNeg, Int.reduceBEq, Int.reduceBNe, ↓reduceIte, reduceCtorEq]); (first | refine ⟨_, rfl, _, rfl, Fin.pure0 0 ?_⟩ | refine ⟨_, rfl, _, rfl, Fin.pure 1 ?_⟩); simp only [AV.low, List.map_cons, List.map_nil, aOne, aev, List.getElem?_cons_zero, List.getElem?_cons_succ, Option.getD_some, List.length_append, List.length_cons, List.length_nil, Nat.lt_irrefl, if_false]; try rfl)
      rw [h4]
    | cons k rest =>
      obtain ⟨hk, hlt, hd, hm⟩ := drop_cons hr
      rw [hr, cntEL] at h4
      have hz := cntEL_bd k.kids (b - n) 0
      have hz2 := nodesL_mem hm
      rw [cntE_eq] at h4
      have hbd := cntEL_bd (l.drop (i + 1)) b (n + (1 + cntEL k.kids (b - n) 0))
      have hbd2 := cntEL_bd l b 0
      rw [hd] at hbd
      repeat' (first | refine awp_seq ?_ | refine awp_block ?_ | ((first | refine awp_region_k fun Kn Kp hn hp => ?_ | refine awe_intro (parts_run k _) ?_ | refine awe_intro (ihN k.kids (by omega) (by omega) _ _ (by omega) (by omega)) ?_) <;> (simp only [go_sem, Nat.reduceAdd, Nat.reduceSub, Nat.reduceMul, Nat.reduceLeDiff, Nat.reduceLT, Nat.reduceEqDiff, Int.reduceToNat, Int.reduceAdd, Int.reduceMul, Int.reduceSub, Int.reduceLT, Int.reduceLE, Int.reduceEq, Int.reduceNeg, Int.reduceBEq, Int.reduceBNe, ↓reduceIte, reduceCtorEq, hlt, hk, encE_eq] <;> try simp (disch := omega) only [wrap_of])) | (refine hn _ _ ?_; clear hn hp Kn Kp) | (refine hp _ _ _ ?_; clear hn hp Kn Kp) | (refine awp_cond rfl (fun hb => ?_) (fun hb => ?_) <;> (try simp only [decide_eq_true_eq, decide_eq_false_iff_not, Bool.not_eq_true', Bool.not_eq_false', Bool.true_eq_false, Bool.false_eq_true, beq_iff_eq, bne_iff_ne, bne_eq_false_iff_eq, beq_eq_false_iff_ne, gt_iff_lt, ge_iff_le, Int.reduceEq, Int.reduceNe, Int.reduceLT, Int.reduceLE, ne_eq, not_true_eq_false, not_false_eq_true] at hb)) | ((first | refine awg_split (fun hb => ?_) (fun hb => ?_)) <;> have hb0 := hb <;> (try simp only [decide_eq_true_eq, decide_eq_false_iff_not, Bool.not_eq_true', Bool.not_eq_false', Bool.true_eq_false, Bool.false_eq_true, beq_iff_eq, bne_iff_ne, bne_eq_false_iff_eq, beq_eq_false_iff_ne, gt_iff_lt, ge_iff_le, Int.reduceEq, Int.reduceNe, Int.reduceLT, Int.reduceLE, ne_eq, not_true_eq_false, not_false_eq_true] at hb0) <;> (try simp only [beq_true, beq_false, Bool.not_eq_true', Bool.not_eq_false'] at hb) <;> (simp only [go_sem, Nat.reduceAdd, Nat.reduceSub, Nat.reduceMul, Nat.reduceLeDiff, Nat.reduceLT, Nat.reduceEqDiff, Int.reduceToNat, Int.reduceAdd, Int.reduceMul, Int.reduceSub, Int.reduceLT, Int.reduceLE, Int.reduceEq, Int.reduceNeg, Int.reduceBEq, Int.reduceBNe, ↓reduceIte, reduceCtorEq, hlt, hk, encE_eq, hb, hb0] <;> try simp (disch := omega) only [wrap_of])) | refine awp_skip ?_ | refine awp_ret ?_ | refine awp_exit ?_ | refine awp_label ?_ | refine awloop_step ?_ | fail)
      · ((try simp only [go_sem, Nat.reduceAdd, Nat.reduceSub, Nat.reduceMul, Nat.reduceLeDiff, Nat.reduceLT, Nat.reduceEqDiff, Int.reduceToNat, Int.reduceAdd, Int.reduceMul, Int.reduceSub, Int.reduceLT, Int.reduceLE, Int.reduceEq, Int.reduceNeg, Int.reduceBEq, Int.reduceBNe, ↓reduceIte, reduceCtorEq]); (first | refine ⟨_, rfl, _, rfl, Fin.pure0 0 ?_⟩ | refine ⟨_, rfl, _, rfl, Fin.pure 1 ?_⟩); simp only [AV.low, List.map_cons, List.map_nil, aOne, aev, List.getElem?_cons_zero, List.getElem?_cons_succ, Option.getD_some, List.length_append, List.length_cons, List.length_nil, Nat.lt_irrefl, if_false]; try rfl)
        rw [if_pos hb] at h4
        rw [h4]
      · rw [if_neg hb] at h4
        refine ⟨(i + 1, n + (1 + cntEL k.kids (b - n) 0)), by simp only; omega, ⟨by omega, by omega, by simp only; rw [hd]; exact h4⟩, ?_⟩
        (first | (refine Wk.drop0 1 ?_; simp only [List.map_cons, List.map_nil, AV.low, List.length_append, List.length_cons, List.length_nil, Nat.lt_irrefl, if_false, Fgt, Int.natCast_zero, Int.cast_ofNat_Int, Int.ofNat_eq_natCast, true_or, or_true, true_and, and_true, and_self, eq_self]) | (refine Wk.fgt ?_; simp only [Fgt, List.length_nil, List.set_cons_zero, List.set_cons_succ, Int.natCast_zero, Int.cast_ofNat_Int, Int.ofNat_eq_natCast, true_or, or_true, true_and, and_true, and_self, eq_self]))
        simp
end Go.Proofs.Ytkchihkmhojdnaa.Y

set_option linter.unusedVariables false
set_option linter.unusedSimpArgs false
namespace Go.Proofs.Ytkchihkmhojdnaa.Y
open Go.Proofs.Ytkchihkmhojdnaa.AL Go.Proofs Go

theorem inner_run (s : St) (H0 : List AObj) (hl : (innerL s).length ≤ 1000000) : ARun Try.prog 47 [.ag (cS s)] H0 (.ret (.rs 13 ((innerL s).map encS)) H0) := by
  unfold innerL at hl ⊢
  by_cases hk : s.kind = 2
  · rw [if_pos hk, List.length_append] at hl
    (refine ARun.intro Try.func47 rfl Try.call47 Try.ntmps47 Try.results47 ?_; simp only [List.length_cons, List.length_nil, List.length_map, Nat.reduceAdd, Nat.reduceSub, List.replicate_succ, List.replicate_zero, List.cons_append, List.nil_append])
    have h1 : s.thn.length * 168 ≤ 140737488355328 := by omega
    have h2 : s.thn.length ≤ 9223372036854775807 := by omega
    have h3 : (s.thn.length + s.els.length) * 168 ≤ 140737488355328 := by omega
    have h4 : s.thn.length + s.els.length ≤ 9223372036854775807 := by omega
    repeat' (first | refine awp_seq ?_ | refine awp_block ?_ | ((first | refine awp_region_k fun Kn Kp hn hp => ?_ | refine awp_drawn_k (id := 3) [0, 3, 6] [] [.eff 0, .win [0, 1], .win [0, 1], .eff 1, .win [0, 1, 2], .win [0, 1, 2], .eff 2, .win [3]] 3 rfl (by as_aux_lemma => kernel_rfl) fun Kn Kp hn hp => ?_ | refine oge_intro (by assumption) ?_) <;> (simp only [go_sem, Nat.reduceAdd, Nat.reduceSub, Nat.reduceMul, Nat.reduceLeDiff, Nat.reduceLT, Nat.reduceEqDiff, Int.reduceToNat, Int.reduceAdd, Int.reduceMul, Int.reduceSub, Int.reduceLT, Int.reduceLE, Int.reduceEq, Int.reduceNeg, Int.reduceBEq, Int.reduceBNe, ↓reduceIte, reduceCtorEq, hk, h1, h2, h3, h4, bne_self_eq_false] <;> try simp (disch := omega) only [wrap_of])) | (refine hn _ _ ?_; clear hn hp Kn Kp) | (refine hp _ _ _ ?_; clear hn hp Kn Kp) | (refine awp_cond rfl (fun hb => ?_) (fun hb => ?_) <;> (try simp only [decide_eq_true_eq, decide_eq_false_iff_not, Bool.not_eq_true', Bool.not_eq_false', Bool.true_eq_false, Bool.false_eq_true, beq_iff_eq, bne_iff_ne, bne_eq_false_iff_eq, beq_eq_false_iff_ne, gt_iff_lt, ge_iff_le, Int.reduceEq, Int.reduceNe, Int.reduceLT, Int.reduceLE, ne_eq, not_true_eq_false, not_false_eq_true] at hb)) | ((first | refine awg_split (fun hb => ?_) (fun hb => ?_) | refine awsg_split (fun hb => ?_) (fun hb => ?_)) <;> have hb0 := hb <;> (try simp only [decide_eq_true_eq, decide_eq_false_iff_not, Bool.not_eq_true', Bool.not_eq_false', Bool.true_eq_false, Bool.false_eq_true, beq_iff_eq, bne_iff_ne, bne_eq_false_iff_eq, beq_eq_false_iff_ne, gt_iff_lt, ge_iff_le, Int.reduceEq, Int.reduceNe, Int.reduceLT, Int.reduceLE, ne_eq, not_true_eq_false, not_false_eq_true] at hb0) <;> (try simp only [beq_true, beq_false, Bool.not_eq_true', Bool.not_eq_false'] at hb) <;> (simp only [go_sem, Nat.reduceAdd, Nat.reduceSub, Nat.reduceMul, Nat.reduceLeDiff, Nat.reduceLT, Nat.reduceEqDiff, Int.reduceToNat, Int.reduceAdd, Int.reduceMul, Int.reduceSub, Int.reduceLT, Int.reduceLE, Int.reduceEq, Int.reduceNeg, Int.reduceBEq, Int.reduceBNe, ↓reduceIte, reduceCtorEq, hk, h1, h2, h3, h4, bne_self_eq_false, hb, hb0] <;> try simp (disch := omega) only [wrap_of])) | (refine And.intro ?_ ?_) | refine awp_skip ?_ | refine awp_ret ?_ | refine awp_exit ?_ | refine awp_label ?_ | refine awloop_step ?_ | fail)
    ((try simp only [go_sem, Nat.reduceAdd, Nat.reduceSub, Nat.reduceMul, Nat.reduceLeDiff, Nat.reduceLT, Nat.reduceEqDiff, Int.reduceToNat, Int.reduceAdd, Int.reduceMul, Int.reduceSub, Int.reduceLT, Int.reduceLE, Int.reduceEq, Int.reduceNeg, Int.reduceBEq, Int.reduceBNe, ↓reduceIte, reduceCtorEq]); (first | refine ⟨_, rfl, _, rfl, Fin.pure0 0 ?_⟩ | refine ⟨_, rfl, _, rfl, Fin.pure 1 ?_⟩); simp only [AV.low, List.map_cons, List.map_nil, aOne, aev, List.getElem?_cons_zero, List.getElem?_cons_succ, Option.getD_some, List.length_append, List.length_cons, List.length_nil, Nat.lt_irrefl, if_false]; try rfl)
    rw [if_pos hk]
    have := @low_os_pvs (H0 ++ [.cells 59 ((cS s).map AV.pv), .arr 59 13 (((s.thn ++ s.els).map encS).map fun r => r.map AV.pv)]) H0.length 0 (H0.length + 1) 59 13 ((s.thn ++ s.els).map encS) (by rw [getOk]; rfl) (by omega)
    simpa [AV.low, hk] using this.symm
  · (refine ARun.intro Try.func47 rfl Try.call47 Try.ntmps47 Try.results47 ?_; simp only [List.length_cons, List.length_nil, List.length_map, Nat.reduceAdd, Nat.reduceSub, List.replicate_succ, List.replicate_zero, List.cons_append, List.nil_append])
    have hk' : (s.kind != 2) = true := by simpa using hk
    repeat' (first | refine awp_seq ?_ | refine awp_block ?_ | ((first | refine awp_region_k fun Kn Kp hn hp => ?_ | refine awp_drawn_k (id := 3) [0, 3, 6] [] [.eff 0, .win [0, 1], .win [0, 1], .eff 1, .win [0, 1, 2], .win [0, 1, 2], .eff 2, .win [3]] 3 rfl (by as_aux_lemma => kernel_rfl) fun Kn Kp hn hp => ?_ | refine oge_intro (by assumption) ?_) <;> (simp only [go_sem, Nat.reduceAdd, Nat.reduceSub, Nat.reduceMul, Nat.reduceLeDiff, Nat.reduceLT, Nat.reduceEqDiff, Int.reduceToNat, Int.reduceAdd, Int.reduceMul, Int.reduceSub, Int.reduceLT, Int.reduceLE, Int.reduceEq, Int.reduceNeg, Int.reduceBEq, Int.reduceBNe, ↓reduceIte, reduceCtorEq, hk', hk] <;> try simp (disch := omega) only [wrap_of])) | (refine hn _ _ ?_; clear hn hp Kn Kp) | (refine hp _ _ _ ?_; clear hn hp Kn Kp) | (refine awp_cond rfl (fun hb => ?_) (fun hb => ?_) <;> (try simp only [decide_eq_true_eq, decide_eq_false_iff_not, Bool.not_eq_true', Bool.not_eq_false', Bool.true_eq_false, Bool.false_eq_true, beq_iff_eq, bne_iff_ne, bne_eq_false_iff_eq, beq_eq_false_iff_ne, gt_iff_lt, ge_iff_le, Int.reduceEq, Int.reduceNe, Int.reduceLT, Int.reduceLE, ne_eq, not_true_eq_false, not_false_eq_true] at hb)) | ((first | refine awg_split (fun hb => ?_) (fun hb => ?_) | refine awsg_split (fun hb => ?_) (fun hb => ?_)) <;> have hb0 := hb <;> (try simp only [decide_eq_true_eq, decide_eq_false_iff_not, Bool.not_eq_true', Bool.not_eq_false', Bool.true_eq_false, Bool.false_eq_true, beq_iff_eq, bne_iff_ne, bne_eq_false_iff_eq, beq_eq_false_iff_ne, gt_iff_lt, ge_iff_le, Int.reduceEq, Int.reduceNe, Int.reduceLT, Int.reduceLE, ne_eq, not_true_eq_false, not_false_eq_true] at hb0) <;> (try simp only [beq_true, beq_false, Bool.not_eq_true', Bool.not_eq_false'] at hb) <;> (simp only [go_sem, Nat.reduceAdd, Nat.reduceSub, Nat.reduceMul, Nat.reduceLeDiff, Nat.reduceLT, Nat.reduceEqDiff, Int.reduceToNat, Int.reduceAdd, Int.reduceMul, Int.reduceSub, Int.reduceLT, Int.reduceLE, Int.reduceEq, Int.reduceNeg, Int.reduceBEq, Int.reduceBNe, ↓reduceIte, reduceCtorEq, hk', hk, hb, hb0] <;> try simp (disch := omega) only [wrap_of])) | (refine And.intro ?_ ?_) | refine awp_skip ?_ | refine awp_ret ?_ | refine awp_exit ?_ | refine awp_label ?_ | refine awloop_step ?_ | fail)
    refine ⟨_, rfl, _, rfl, Fin.pureC 1 ?_⟩
    rw [if_neg hk]
    simp only [AV.low, aOne, aev, List.getElem?_cons_zero, List.getElem?_cons_succ, Option.getD_some]
    exact Cv.nil (Nat.succ_pos 12)

theorem countS_run : ∀ (N : Nat) (l : List St), manyL l ≤ N → manyL l ≤ 1000000 → ∀ (b : Int) (H0 : List AObj), 0 ≤ b → b ≤ 1000000 →
    ARun Try.prog 46 [.rs 13 (l.map encS), .fn (.func 47) [] [], .i b] H0 (.ret (.i (cntSL l b 0)) H0) := by
  intro N
  induction N with
  | zero =>
    intro l hN _ b H0 hb1 hb2
    have hl : l = [] := by have := len_manyL l; exact List.eq_nil_of_length_eq_zero (by omega)
    subst hl
    (refine ARun.intro Try.func46 rfl Try.call46 Try.ntmps46 Try.results46 ?_; simp only [List.length_cons, List.length_nil, List.length_map, Nat.reduceAdd, Nat.reduceSub, List.replicate_succ, List.replicate_zero, List.cons_append, List.nil_append])
    repeat' (first | refine awp_seq ?_ | refine awp_block ?_ | ((first | refine awp_region_k fun Kn Kp hn hp => ?_) <;> (simp only [go_sem, Nat.reduceAdd, Nat.reduceSub, Nat.reduceMul, Nat.reduceLeDiff, Nat.reduceLT, Nat.reduceEqDiff, Int.reduceToNat, Int.reduceAdd, Int.reduceMul, Int.reduceSub, Int.reduceLT, Int.reduceLE, Int.reduceEq, Int.reduceNeg, Int.reduceBEq, Int.reduceBNe, ↓reduceIte, reduceCtorEq] <;> try simp (disch := omega) only [wrap_of])) | (refine hn _ _ ?_; clear hn hp Kn Kp) | (refine hp _ _ _ ?_; clear hn hp Kn Kp) | (refine awp_cond rfl (fun hb => ?_) (fun hb => ?_) <;> (try simp only [decide_eq_true_eq, decide_eq_false_iff_not, Bool.not_eq_true', Bool.not_eq_false', Bool.true_eq_false, Bool.false_eq_true, beq_iff_eq, bne_iff_ne, bne_eq_false_iff_eq, beq_eq_false_iff_ne, gt_iff_lt, ge_iff_le, Int.reduceEq, Int.reduceNe, Int.reduceLT, Int.reduceLE, ne_eq, not_true_eq_false, not_false_eq_true] at hb)) | ((first | refine awg_split (fun hb => ?_) (fun hb => ?_)) <;> have hb0 := hb <;> (try simp only [decide_eq_true_eq, decide_eq_false_iff_not, Bool.not_eq_true', Bool.not_eq_false', Bool.true_eq_false, Bool.false_eq_true, beq_iff_eq, bne_iff_ne, bne_eq_false_iff_eq, beq_eq_false_iff_ne, gt_iff_lt, ge_iff_le, Int.reduceEq, Int.reduceNe, Int.reduceLT, Int.reduceLE, ne_eq, not_true_eq_false, not_false_eq_true] at hb0) <;> (try simp only [beq_true, beq_false, Bool.not_eq_true', Bool.not_eq_false'] at hb) <;> (simp only [go_sem, Nat.reduceAdd, Nat.reduceSub, Nat.reduceMul, Nat.reduceLeDiff, Nat.reduceLT, Nat.reduceEqDiff, Int.reduceToNat, Int.reduceAdd, Int.reduceMul, Int.reduceSub, Int.reduceLT, Int.reduceLE, Int.reduceEq, Int.reduceNeg, Int.reduceBEq, Int.reduceBNe, ↓reduceIte, reduceCtorEq, hb, hb0] <;> try simp (disch := omega) only [wrap_of])) | refine awp_skip ?_ | refine awp_ret ?_ | refine awp_exit ?_ | refine awp_label ?_ | refine awloop_step ?_ | fail)
    refine awp_loop 1 ?_
    unfold AWLoop
    repeat' (first | refine awp_seq ?_ | refine awp_block ?_ | ((first | refine awp_region_k fun Kn Kp hn hp => ?_) <;> (simp only [go_sem, Nat.reduceAdd, Nat.reduceSub, Nat.reduceMul, Nat.reduceLeDiff, Nat.reduceLT, Nat.reduceEqDiff, Int.reduceToNat, Int.reduceAdd, Int.reduceMul, Int.reduceSub, Int.reduceLT, Int.reduceLE, Int.reduceEq, Int.reduceNeg, Int.reduceBEq, Int.reduceBNe, ↓reduceIte, reduceCtorEq] <;> try simp (disch := omega) only [wrap_of])) | (refine hn _ _ ?_; clear hn hp Kn Kp) | (refine hp _ _ _ ?_; clear hn hp Kn Kp) | (refine awp_cond rfl (fun hb => ?_) (fun hb => ?_) <;> (try simp only [decide_eq_true_eq, decide_eq_false_iff_not, Bool.not_eq_true', Bool.not_eq_false', Bool.true_eq_false, Bool.false_eq_true, beq_iff_eq, bne_iff_ne, bne_eq_false_iff_eq, beq_eq_false_iff_ne, gt_iff_lt, ge_iff_le, Int.reduceEq, Int.reduceNe, Int.reduceLT, Int.reduceLE, ne_eq, not_true_eq_false, not_false_eq_true] at hb)) | ((first | refine awg_split (fun hb => ?_) (fun hb => ?_)) <;> have hb0 := hb <;> (try simp only [decide_eq_true_eq, decide_eq_false_iff_not, Bool.not_eq_true', Bool.not_eq_false', Bool.true_eq_false, Bool.false_eq_true, beq_iff_eq, bne_iff_ne, bne_eq_false_iff_eq, beq_eq_false_iff_ne, gt_iff_lt, ge_iff_le, Int.reduceEq, Int.reduceNe, Int.reduceLT, Int.reduceLE, ne_eq, not_true_eq_false, not_false_eq_true] at hb0) <;> (try simp only [beq_true, beq_false, Bool.not_eq_true', Bool.not_eq_false'] at hb) <;> (simp only [go_sem, Nat.reduceAdd, Nat.reduceSub, Nat.reduceMul, Nat.reduceLeDiff, Nat.reduceLT, Nat.reduceEqDiff, Int.reduceToNat, Int.reduceAdd, Int.reduceMul, Int.reduceSub, Int.reduceLT, Int.reduceLE, Int.reduceEq, Int.reduceNeg, Int.reduceBEq, Int.reduceBNe, ↓reduceIte, reduceCtorEq, hb, hb0] <;> try simp (disch := omega) only [wrap_of])) | refine awp_skip ?_ | refine awp_ret ?_ | refine awp_exit ?_ | refine awp_label ?_ | refine awloop_step ?_ | fail)
    ((try simp only [go_sem, Nat.reduceAdd, Nat.reduceSub, Nat.reduceMul, Nat.reduceLeDiff, Nat.reduceLT, Nat.reduceEqDiff, Int.reduceToNat, Int.reduceAdd, Int.reduceMul, Int.reduceSub, Int.reduceLT, Int.reduceLE, Int.reduceEq, Int.reduceNeg, Int.reduceBEq, Int.reduceBNe, ↓reduceIte, reduceCtorEq]); (first | refine ⟨_, rfl, _, rfl, Fin.pure0 0 ?_⟩ | refine ⟨_, rfl, _, rfl, Fin.pure 1 ?_⟩); simp only [AV.low, List.map_cons, List.map_nil, aOne, aev, List.getElem?_cons_zero, List.getElem?_cons_succ, Option.getD_some, List.length_append, List.length_cons, List.length_nil, Nat.lt_irrefl, if_false]; try rfl)
    all_goals simp [cntSL]
  | succ N ihN =>
    intro l hN hM b H0 hb1 hb2
    (refine ARun.intro Try.func46 rfl Try.call46 Try.ntmps46 Try.results46 ?_; simp only [List.length_cons, List.length_nil, List.length_map, Nat.reduceAdd, Nat.reduceSub, List.replicate_succ, List.replicate_zero, List.cons_append, List.nil_append])
    repeat' (first | refine awp_seq ?_ | refine awp_block ?_ | ((first | refine awp_region_k fun Kn Kp hn hp => ?_) <;> (simp only [go_sem, Nat.reduceAdd, Nat.reduceSub, Nat.reduceMul, Nat.reduceLeDiff, Nat.reduceLT, Nat.reduceEqDiff, Int.reduceToNat, Int.reduceAdd, Int.reduceMul, Int.reduceSub, Int.reduceLT, Int.reduceLE, Int.reduceEq, Int.reduceNeg, Int.reduceBEq, Int.reduceBNe, ↓reduceIte, reduceCtorEq] <;> try simp (disch := omega) only [wrap_of])) | (refine hn _ _ ?_; clear hn hp Kn Kp) | (refine hp _ _ _ ?_; clear hn hp Kn Kp) | (refine awp_cond rfl (fun hb => ?_) (fun hb => ?_) <;> (try simp only [decide_eq_true_eq, decide_eq_false_iff_not, Bool.not_eq_true', Bool.not_eq_false', Bool.true_eq_false, Bool.false_eq_true, beq_iff_eq, bne_iff_ne, bne_eq_false_iff_eq, beq_eq_false_iff_ne, gt_iff_lt, ge_iff_le, Int.reduceEq, Int.reduceNe, Int.reduceLT, Int.reduceLE, ne_eq, not_true_eq_false, not_false_eq_true] at hb)) | ((first | refine awg_split (fun hb => ?_) (fun hb => ?_)) <;> have hb0 := hb <;> (try simp only [decide_eq_true_eq, decide_eq_false_iff_not, Bool.not_eq_true', Bool.not_eq_false', Bool.true_eq_false, Bool.false_eq_true, beq_iff_eq, bne_iff_ne, bne_eq_false_iff_eq, beq_eq_false_iff_ne, gt_iff_lt, ge_iff_le, Int.reduceEq, Int.reduceNe, Int.reduceLT, Int.reduceLE, ne_eq, not_true_eq_false, not_false_eq_true] at hb0) <;> (try simp only [beq_true, beq_false, Bool.not_eq_true', Bool.not_eq_false'] at hb) <;> (simp only [go_sem, Nat.reduceAdd, Nat.reduceSub, Nat.reduceMul, Nat.reduceLeDiff, Nat.reduceLT, Nat.reduceEqDiff, Int.reduceToNat, Int.reduceAdd, Int.reduceMul, Int.reduceSub, Int.reduceLT, Int.reduceLE, Int.reduceEq, Int.reduceNeg, Int.reduceBEq, Int.reduceBNe, ↓reduceIte, reduceCtorEq, hb, hb0] <;> try simp (disch := omega) only [wrap_of])) | refine awp_skip ?_ | refine awp_ret ?_ | refine awp_exit ?_ | refine awp_label ?_ | refine awloop_step ?_ | fail)
    refine awp_loop_ind (σ := Nat × Int) (fun s => l.length - s.1) (fun s => 0 ≤ s.2 ∧ s.2 ≤ 1000000 ∧ cntSL (l.drop s.1) b s.2 = cntSL l b 0)
      (fun s => (.any :: (.fn (.func 47) [] []) :: .i b :: .any :: .any :: .any :: .any :: .i s.2 :: .any :: .any :: .rs 13 (l.map encS) :: .i l.length :: .i s.1 :: .any :: .any :: .any :: .any :: .any :: .any :: .any :: .any :: .any :: .any :: .any :: .any :: .any :: .any :: .any :: .any :: .any :: .any :: .any :: .any :: []))
      (fun s => H0) (0, 0) ⟨by simp, by simp, by simp⟩ (by (refine Wk.fgt ?_; simp only [Fgt, List.length_nil, List.set_cons_zero, List.set_cons_succ, Int.natCast_zero, Int.cast_ofNat_Int, Int.ofNat_eq_natCast, true_or, or_true, true_and, and_true, and_self, eq_self])) ?_
    rintro ⟨i, n⟩ ⟨h2, h3, h4⟩
    simp only at h2 h3 h4 ⊢
    have hlen := len_manyL l
    cases hr : l.drop i with
    | nil =>
      have hlt := drop_nil hr
      rw [hr, cntSL] at h4
      repeat' (first | refine awp_seq ?_ | refine awp_block ?_ | ((first | refine awp_region_k fun Kn Kp hn hp => ?_) <;> (simp only [go_sem, Nat.reduceAdd, Nat.reduceSub, Nat.reduceMul, Nat.reduceLeDiff, Nat.reduceLT, Nat.reduceEqDiff, Int.reduceToNat, Int.reduceAdd, Int.reduceMul, Int.reduceSub, Int.reduceLT, Int.reduceLE, Int.reduceEq, Int.reduceNeg, Int.reduceBEq, Int.reduceBNe, ↓reduceIte, reduceCtorEq, hlt] <;> try simp (disch := omega) only [wrap_of])) | (refine hn _ _ ?_; clear hn hp Kn Kp) | (refine hp _ _ _ ?_; clear hn hp Kn Kp) | (refine awp_cond rfl (fun hb => ?_) (fun hb => ?_) <;> (try simp only [decide_eq_true_eq, decide_eq_false_iff_not, Bool.not_eq_true', Bool.not_eq_false', Bool.true_eq_false, Bool.false_eq_true, beq_iff_eq, bne_iff_ne, bne_eq_false_iff_eq, beq_eq_false_iff_ne, gt_iff_lt, ge_iff_le, Int.reduceEq, Int.reduceNe, Int.reduceLT, Int.reduceLE, ne_eq, not_true_eq_false, not_false_eq_true] at hb)) | ((first | refine awg_split (fun hb => ?_) (fun hb => ?_)) <;> have hb0 := hb <;> (try simp only [decide_eq_true_eq, decide_eq_false_iff_not, Bool.not_eq_true', Bool.not_eq_false', Bool.true_eq_false, Bool.false_eq_true, beq_iff_eq, bne_iff_ne, bne_eq_false_iff_eq, beq_eq_false_iff_ne, gt_iff_lt, ge_iff_le, Int.reduceEq, Int.reduceNe, Int.reduceLT, Int.reduceLE, ne_eq, not_true_eq_false, not_false_eq_true] at hb0) <;> (try simp only [beq_true, beq_false, Bool.not_eq_true', Bool.not_eq_false'] at hb) <;> (simp only [go_sem, Nat.reduceAdd, Nat.reduceSub, Nat.reduceMul, Nat.reduceLeDiff, Nat.reduceLT, Nat.reduceEqDiff, Int.reduceToNat, Int.reduceAdd, Int.reduceMul, Int.reduceSub, Int.reduceLT, Int.reduceLE, Int.reduceEq, Int.reduceNeg, Int.reduceBEq, Int.reduceBNe, ↓reduceIte, reduceCtorEq, hlt, hb, hb0] <;> try simp (disch := omega) only [wrap_of])) | refine awp_skip ?_ | refine awp_ret ?_ | refine awp_exit ?_ | refine awp_label ?_ | refine awloop_step ?_ | fail)
      ((try simp only [go_sem, Nat.reduceAdd, Nat.reduceSub, Nat.reduceMul, Nat.reduceLeDiff, Nat.reduceLT, Nat.reduceEqDiff, Int.reduceToNat, Int.reduceAdd, Int.reduceMul, Int.reduceSub, Int.reduceLT, Int.reduceLE, Int.reduceEq, Int.reduceNeg, Int.reduceBEq, Int.reduceBNe, ↓reduceIte, reduceCtorEq]); (first | refine ⟨_, rfl, _, rfl, Fin.pure0 0 ?_⟩ | refine ⟨_, rfl, _, rfl, Fin.pure 1 ?_⟩); simp only [AV.low, List.map_cons, List.map_nil, aOne, aev, List.getElem?_cons_zero, List.getElem?_cons_succ, Option.getD_some, List.length_append, List.length_cons, List.length_nil, Nat.lt_irrefl, if_false]; try rfl)
      rw [h4]
    | cons k rest =>
      obtain ⟨hk, hlt, hd, hm⟩ := drop_cons hr
      rw [hr, cntSL] at h4
      have hz := cntSL_bd (innerL k) (b - n) 0
      have hz2 := manyL_mem hm
      rw [cntS_eq] at h4
      have hbd := cntSL_bd (l.drop (i + 1)) b (n + (1 + cntSL (innerL k) (b - n) 0))
      have hbd2 := cntSL_bd l b 0
      rw [hd] at hbd
      have hlk := len_manyL (innerL k)
      repeat' (first | refine awp_seq ?_ | refine awp_block ?_ | ((first | refine awp_region_k fun Kn Kp hn hp => ?_ | refine awe_intro (inner_run k _ (by omega)) ?_ | refine awe_intro (ihN (innerL k) (by omega) (by omega) _ _ (by omega) (by omega)) ?_) <;> (simp only [go_sem, Nat.reduceAdd, Nat.reduceSub, Nat.reduceMul, Nat.reduceLeDiff, Nat.reduceLT, Nat.reduceEqDiff, Int.reduceToNat, Int.reduceAdd, Int.reduceMul, Int.reduceSub, Int.reduceLT, Int.reduceLE, Int.reduceEq, Int.reduceNeg, Int.reduceBEq, Int.reduceBNe, ↓reduceIte, reduceCtorEq, hlt, hk, encS_eq] <;> try simp (disch := omega) only [wrap_of])) | (refine hn _ _ ?_; clear hn hp Kn Kp) | (refine hp _ _ _ ?_; clear hn hp Kn Kp) | (refine awp_cond rfl (fun hb => ?_) (fun hb => ?_) <;> (try simp only [decide_eq_true_eq, decide_eq_false_iff_not, Bool.not_eq_true', Bool.not_eq_false', Bool.true_eq_false, Bool.false_eq_true, beq_iff_eq, bne_iff_ne, bne_eq_false_iff_eq, beq_eq_false_iff_ne, gt_iff_lt, ge_iff_le, Int.reduceEq, Int.reduceNe, Int.reduceLT, Int.reduceLE, ne_eq, not_true_eq_false, not_false_eq_true] at hb)) | ((first | refine awg_split (fun hb => ?_) (fun hb => ?_)) <;> have hb0 := hb <;> (try simp only [decide_eq_true_eq, decide_eq_false_iff_not, Bool.not_eq_true', Bool.not_eq_false', Bool.true_eq_false, Bool.false_eq_true, beq_iff_eq, bne_iff_ne, bne_eq_false_iff_eq, beq_eq_false_iff_ne, gt_iff_lt, ge_iff_le, Int.reduceEq, Int.reduceNe, Int.reduceLT, Int.reduceLE, ne_eq, not_true_eq_false, not_false_eq_true] at hb0) <;> (try simp only [beq_true, beq_false, Bool.not_eq_true', Bool.not_eq_false'] at hb) <;> (simp only [go_sem, Nat.reduceAdd, Nat.reduceSub, Nat.reduceMul, Nat.reduceLeDiff, Nat.reduceLT, Nat.reduceEqDiff, Int.reduceToNat, Int.reduceAdd, Int.reduceMul, Int.reduceSub, Int.reduceLT, Int.reduceLE, Int.reduceEq, Int.reduceNeg, Int.reduceBEq, Int.reduceBNe, ↓reduceIte, reduceCtorEq, hlt, hk, encS_eq, hb, hb0] <;> try simp (disch := omega) only [wrap_of])) | refine awp_skip ?_ | refine awp_ret ?_ | refine awp_exit ?_ | refine awp_label ?_ | refine awloop_step ?_ | fail)
      · ((try simp only [go_sem, Nat.reduceAdd, Nat.reduceSub, Nat.reduceMul, Nat.reduceLeDiff, Nat.reduceLT, Nat.reduceEqDiff, Int.reduceToNat, Int.reduceAdd, Int.reduceMul, Int.reduceSub, Int.reduceLT, Int.reduceLE, Int.reduceEq, Int.reduceNeg, Int.reduceBEq, Int.reduceBNe, ↓reduceIte, reduceCtorEq]); (first | refine ⟨_, rfl, _, rfl, Fin.pure0 0 ?_⟩ | refine ⟨_, rfl, _, rfl, Fin.pure 1 ?_⟩); simp only [AV.low, List.map_cons, List.map_nil, aOne, aev, List.getElem?_cons_zero, List.getElem?_cons_succ, Option.getD_some, List.length_append, List.length_cons, List.length_nil, Nat.lt_irrefl, if_false]; try rfl)
        rw [if_pos hb] at h4
        rw [h4]
      · rw [if_neg hb] at h4
        refine ⟨(i + 1, n + (1 + cntSL (innerL k) (b - n) 0)), by simp only; omega, ⟨by omega, by omega, by simp only; rw [hd]; exact h4⟩, ?_⟩
        (first | (refine Wk.drop0 1 ?_; simp only [List.map_cons, List.map_nil, AV.low, List.length_append, List.length_cons, List.length_nil, Nat.lt_irrefl, if_false, Fgt, Int.natCast_zero, Int.cast_ofNat_Int, Int.ofNat_eq_natCast, true_or, or_true, true_and, and_true, and_self, eq_self]) | (refine Wk.fgt ?_; simp only [Fgt, List.length_nil, List.set_cons_zero, List.set_cons_succ, Int.natCast_zero, Int.cast_ofNat_Int, Int.ofNat_eq_natCast, true_or, or_true, true_and, and_true, and_self, eq_self]))
        simp
end Go.Proofs.Ytkchihkmhojdnaa.Y

/- Plain laws: units. -/
set_option linter.unusedVariables false
namespace Go.Proofs.Ytkchihkmhojdnaa.AL

structure Un where
  p : Int
  b : Int
  t : Int
  deriving DecidableEq
abbrev cU (u : Un) : List PV := [.i u.p, .i u.b, .i u.t]

def ofK (k : Int) : Option Un :=
  if k = 0 then some ⟨0, 0, 0⟩ else if k = 1 then some ⟨1, 0, 0⟩ else if k = 2 then some ⟨0, 1, 0⟩ else if k = 3 then some ⟨0, 0, 1⟩ else if k = 4 then some ⟨0, 1, -1⟩ else none
def Un.ok (u : Un) : Prop := -4 ≤ u.p ∧ u.p ≤ 4 ∧ -4 ≤ u.b ∧ u.b ≤ 4 ∧ -4 ≤ u.t ∧ u.t ≤ 4
instance (u : Un) : Decidable u.ok := by unfold Un.ok; infer_instance
theorem ofK_ok {k : Int} {u : Un} (h : ofK k = some u) : u.ok := by
  unfold ofK at h
  unfold Un.ok
  repeat' split at h
  all_goals first
    | (simp only [Option.some.injEq] at h; subst h; simp only; omega)
    | cases h
theorem ofK_range {k : Int} : (ofK k).isSome = true ↔ 0 ≤ k ∧ k ≤ 4 := by
  unfold ofK
  repeat' split
  all_goals simp
  all_goals omega
def Un.add (a b : Un) (s : Int) : Un := ⟨a.p + s * b.p, a.b + s * b.b, a.t + s * b.t⟩
def comb (op : Int) (a b : Un) : Except Int Un :=
  if op = 6 then (if (a.add b 1).ok then .ok (a.add b 1) else .error 13)
  else if op = 7 ∨ op = 8 then (if (a.add b (-1)).ok then .ok (a.add b (-1)) else .error 13)
  else if a = b then .ok a else .error 13
def leafS (vs : List Un) (op n u : Int) : Except Int Un :=
  if op = 1 then (if 0 ≤ n ∧ n ≤ 1000000000 then (match ofK u with | some k => .ok k | none => .error 1) else .error 1)
  else if op = 2 then (if 0 ≤ n then (match vs[n.toNat]? with | some k => .ok k | none => .error 1) else .error 1)
  else if op = 3 then (if n = 0 ∨ n = 3 then .ok ⟨1, 0, 0⟩ else if n = 1 then .ok ⟨0, 0, 1⟩ else if n = 2 then .ok ⟨0, 1, 0⟩ else .error 1)
  else .error 1
def node (vs : List Un) (op n u : Int) (l : List Un) : Except Int Un :=
  match l with
  | [] => leafS vs op n u
  | [a, b] => if 4 ≤ op ∧ op ≤ 10 then comb op a b else .error 1
  | _ => .error 1
mutual
def inf (vs : List Un) : Ex → Except Int Un
  | .mk op n u kids => match infL vs kids with
    | .error x => .error x
    | .ok l => node vs op n u l
def infL (vs : List Un) : List Ex → Except Int (List Un)
  | [] => .ok []
  | e :: es => match inf vs e with
    | .error x => .error x
    | .ok a => match infL vs es with
      | .error x => .error x
      | .ok asx => .ok (a :: asx)
end
theorem inf_eq (vs : List Un) (e : Ex) : inf vs e = match infL vs e.kids with
    | .error x => .error x
    | .ok l => node vs e.op e.n e.unit l := by cases e; rw [inf]; rfl
def outU (t : Nat) : Except Int Un → List AObj → AOut
  | .ok u, H => .ret (.ag (cU u)) H
  | .error x, H => .pan (.sc (.iface t (.int .i64 x))) H
def pvRows (rows : List (List PV)) : List (List AV) := rows.map fun r => r.map AV.pv
theorem pvRows_len (rows : List (List PV)) : (pvRows rows).length = rows.length := by simp [pvRows]
theorem under_pvRows {m t sz : Nat} (rows : List (List PV)) : (AObj.arr t sz (pvRows rows)).under m := by
  simp only [AObj.under, pvRows]
  intro r hr c hc
  obtain ⟨r', _, rfl⟩ := List.mem_map.1 hr
  exact under_pvs r' c hc
end Go.Proofs.Ytkchihkmhojdnaa.AL
namespace Go.Proofs.Ytkchihkmhojdnaa.AL
theorem leafS_ok {vs : List Un} (hvs : ∀ u ∈ vs, u.ok) {op n u : Int} {x : Un} (h : leafS vs op n u = .ok x) : x.ok := by
  unfold leafS at h
  split at h
  · split at h
    · split at h
      · rename_i k hk; simp only [Except.ok.injEq] at h; subst h; exact ofK_ok hk
      · cases h
    · cases h
  · split at h
    · split at h
      · split at h
        · rename_i k hk; simp only [Except.ok.injEq] at h; subst h; exact hvs _ (List.mem_of_getElem? hk)
        · cases h
      · cases h
    · split at h
      · repeat' split at h
        all_goals first
          | (simp only [Except.ok.injEq] at h; subst h; decide)
          | cases h
      · cases h
theorem comb_ok {op : Int} {a b x : Un} (ha : a.ok) (h : comb op a b = .ok x) : x.ok := by
  unfold comb at h
  repeat' split at h
  all_goals first
    | cases h; done
    | (simp only [Except.ok.injEq] at h; subst h; assumption)
theorem node_ok {vs : List Un} (hvs : ∀ u ∈ vs, u.ok) {op n u : Int} {l : List Un} (hl : ∀ v ∈ l, v.ok) {x : Un} (h : node vs op n u l = .ok x) : x.ok := by
  unfold node at h
  split at h
  · exact leafS_ok hvs h
  · split at h
    · exact comb_ok (hl _ (by simp)) h
    · cases h
  · cases h
theorem inf_ok (vs : List Un) (hvs : ∀ u ∈ vs, u.ok) (e : Ex) : ∀ u, inf vs e = .ok u → u.ok := by
  induction e using Ex.ind with
  | h e ih =>
    intro u hu
    rw [inf_eq] at hu
    have key : ∀ (l : List Ex), (∀ k ∈ l, ∀ u, inf vs k = .ok u → u.ok) → ∀ r, infL vs l = .ok r → ∀ v ∈ r, v.ok := by
      intro l
      induction l with
      | nil => intro _ r hr v hv; simp only [infL, Except.ok.injEq] at hr; subst hr; cases hv
      | cons x xs ihl =>
        intro hk r hr v hv
        simp only [infL] at hr
        split at hr
        · cases hr
        · rename_i a ha
          split at hr
          · cases hr
          · rename_i asx has
            simp only [Except.ok.injEq] at hr
            subst hr
            rcases List.mem_cons.1 hv with rfl | hv
            · exact hk x (by simp) _ ha
            · exact ihl (fun k hk' => hk k (by simp [hk'])) _ has v hv
    split at hu
    · cases hu
    · rename_i l hl
      exact node_ok hvs (key _ ih l hl) hu
end Go.Proofs.Ytkchihkmhojdnaa.AL
namespace Go.Proofs.Ytkchihkmhojdnaa.AL
def ksL : List Vr → Option (List Un)
  | [] => some []
  | v :: vs => match ofK v.unit with
    | none => none
    | some u => match ksL vs with
      | none => none
      | some us => some (u :: us)
theorem ksL_ok : ∀ {l : List Vr} {us : List Un}, ksL l = some us → ∀ u ∈ us, u.ok
  | [], us, h, u, hu => by simp only [ksL, Option.some.injEq] at h; subst h; cases hu
  | v :: vs, us, h, u, hu => by
    simp only [ksL] at h
    split at h
    · cases h
    · rename_i x hx
      split at h
      · cases h
      · rename_i ys hys
        simp only [Option.some.injEq] at h
        subst h
        rcases List.mem_cons.1 hu with rfl | hu
        · exact ofK_ok hx
        · exact ksL_ok hys u hu
theorem ksL_len : ∀ {l : List Vr} {us : List Un}, ksL l = some us → us.length = l.length
  | [], us, h => by simp only [ksL, Option.some.injEq] at h; subst h; rfl
  | v :: vs, us, h => by
    simp only [ksL] at h
    split at h
    · cases h
    · split at h
      · cases h
      · rename_i ys hys
        simp only [Option.some.injEq] at h
        subst h
        simp [ksL_len hys]
end Go.Proofs.Ytkchihkmhojdnaa.AL

set_option linter.unusedVariables false
set_option linter.unusedSimpArgs false
namespace Go.Proofs.Ytkchihkmhojdnaa.Y
open Go.Proofs.Ytkchihkmhojdnaa.AL Go.Proofs Go

theorem eqg70 : Try.prog.eqGuardType Try.prog.depth 70 = false := by kernel_rfl
theorem eqg34 : Try.prog.eqGuardType Try.prog.depth 34 = false := by kernel_rfl
theorem eqs34 : eqStruct Try.prog 34 = true := by kernel_rfl
theorem eqU (a b : Un) : (a.p == b.p && (a.b == b.b && a.t == b.t)) = decide (a = b) := by
  obtain ⟨a1, a2, a3⟩ := a
  obtain ⟨b1, b2, b3⟩ := b
  simp only [Un.mk.injEq, Bool.decide_and]
  rfl

/-- The answer of 'of'. -/
def ofAns (k : Int) : AV := match ofK k with
  | some u => .tup [.ag (cU u), .b true]
  | none => .tup [.ag [.i 0, .i 0, .i 0], .b false]
theorem of_run (n : Int) (H0 : List AObj) : ARun Try.prog 39 [.i n] H0 (.ret (ofAns n) H0) := by
  by_cases h : 0 ≤ n ∧ n ≤ 4
  · have hc : n = 0 ∨ n = 1 ∨ n = 2 ∨ n = 3 ∨ n = 4 := by omega
    rcases hc with rfl | rfl | rfl | rfl | rfl
    all_goals
      clear h
      (refine ARun.intro Try.func39 rfl Try.call39 Try.ntmps39 Try.results39 ?_; simp only [List.length_cons, List.length_nil, List.length_map, Nat.reduceAdd, Nat.reduceSub, List.replicate_succ, List.replicate_zero, List.cons_append, List.nil_append])
      repeat' (first | refine awp_seq ?_ | refine awp_block ?_ | ((first | refine awp_region_k fun Kn Kp hn hp => ?_ | refine oge_intro (by assumption) ?_) <;> (simp only [go_sem, Nat.reduceAdd, Nat.reduceSub, Nat.reduceMul, Nat.reduceLeDiff, Nat.reduceLT, Nat.reduceEqDiff, Int.reduceToNat, Int.reduceAdd, Int.reduceMul, Int.reduceSub, Int.reduceLT, Int.reduceLE, Int.reduceEq, Int.reduceNeg, Int.reduceBEq, Int.reduceBNe, ↓reduceIte, reduceCtorEq] <;> try simp (disch := omega) only [wrap_of])) | (refine hn _ _ ?_; clear hn hp Kn Kp) | (refine hp _ _ _ ?_; clear hn hp Kn Kp) | (refine awp_cond rfl (fun hb => ?_) (fun hb => ?_) <;> (try simp only [decide_eq_true_eq, decide_eq_false_iff_not, Bool.not_eq_true', Bool.not_eq_false', Bool.true_eq_false, Bool.false_eq_true, beq_iff_eq, bne_iff_ne, bne_eq_false_iff_eq, beq_eq_false_iff_ne, gt_iff_lt, ge_iff_le, Int.reduceEq, Int.reduceNe, Int.reduceLT, Int.reduceLE, ne_eq, not_true_eq_false, not_false_eq_true] at hb)) | ((first | refine awg_split (fun hb => ?_) (fun hb => ?_) | refine awsg_split (fun hb => ?_) (fun hb => ?_)) <;> have hb0 := hb <;> (try simp only [decide_eq_true_eq, decide_eq_false_iff_not, Bool.not_eq_true', Bool.not_eq_false', Bool.true_eq_false, Bool.false_eq_true, beq_iff_eq, bne_iff_ne, bne_eq_false_iff_eq, beq_eq_false_iff_ne, gt_iff_lt, ge_iff_le, Int.reduceEq, Int.reduceNe, Int.reduceLT, Int.reduceLE, ne_eq, not_true_eq_false, not_false_eq_true] at hb0) <;> (try simp only [beq_true, beq_false, Bool.not_eq_true', Bool.not_eq_false'] at hb) <;> (simp only [go_sem, Nat.reduceAdd, Nat.reduceSub, Nat.reduceMul, Nat.reduceLeDiff, Nat.reduceLT, Nat.reduceEqDiff, Int.reduceToNat, Int.reduceAdd, Int.reduceMul, Int.reduceSub, Int.reduceLT, Int.reduceLE, Int.reduceEq, Int.reduceNeg, Int.reduceBEq, Int.reduceBNe, ↓reduceIte, reduceCtorEq, hb, hb0] <;> try simp (disch := omega) only [wrap_of])) | (refine And.intro ?_ ?_) | refine awp_skip ?_ | refine awp_ret ?_ | refine awp_exit ?_ | refine awp_label ?_ | refine awloop_step ?_ | fail)
      ((try simp only [go_sem, Nat.reduceAdd, Nat.reduceSub, Nat.reduceMul, Nat.reduceLeDiff, Nat.reduceLT, Nat.reduceEqDiff, Int.reduceToNat, Int.reduceAdd, Int.reduceMul, Int.reduceSub, Int.reduceLT, Int.reduceLE, Int.reduceEq, Int.reduceNeg, Int.reduceBEq, Int.reduceBNe, ↓reduceIte, reduceCtorEq]); (first | refine ⟨_, rfl, _, rfl, Fin.pure0 0 ?_⟩ | refine ⟨_, rfl, _, rfl, Fin.pure 1 ?_⟩); simp only [AV.low, List.map_cons, List.map_nil, aOne, aev, List.getElem?_cons_zero, List.getElem?_cons_succ, Option.getD_some, List.length_append, List.length_cons, List.length_nil, Nat.lt_irrefl, if_false]; try rfl)
      all_goals simp [AV.low, ofAns, ofK]
  · (refine ARun.intro Try.func39 rfl Try.call39 Try.ntmps39 Try.results39 ?_; simp only [List.length_cons, List.length_nil, List.length_map, Nat.reduceAdd, Nat.reduceSub, List.replicate_succ, List.replicate_zero, List.cons_append, List.nil_append])
    have hn : ofK n = none := by
      cases hx : ofK n with
      | none => rfl
      | some u => exact absurd (ofK_range.1 (by rw [hx]; rfl)) h
    repeat' (first | refine awp_seq ?_ | refine awp_block ?_ | ((first | refine awp_region_k fun Kn Kp hn hp => ?_ | refine oge_intro (by assumption) ?_) <;> (simp only [go_sem, Nat.reduceAdd, Nat.reduceSub, Nat.reduceMul, Nat.reduceLeDiff, Nat.reduceLT, Nat.reduceEqDiff, Int.reduceToNat, Int.reduceAdd, Int.reduceMul, Int.reduceSub, Int.reduceLT, Int.reduceLE, Int.reduceEq, Int.reduceNeg, Int.reduceBEq, Int.reduceBNe, ↓reduceIte, reduceCtorEq] <;> try simp (disch := omega) only [wrap_of])) | (refine hn _ _ ?_; clear hn hp Kn Kp) | (refine hp _ _ _ ?_; clear hn hp Kn Kp) | (refine awp_cond rfl (fun hb => ?_) (fun hb => ?_) <;> (try simp only [decide_eq_true_eq, decide_eq_false_iff_not, Bool.not_eq_true', Bool.not_eq_false', Bool.true_eq_false, Bool.false_eq_true, beq_iff_eq, bne_iff_ne, bne_eq_false_iff_eq, beq_eq_false_iff_ne, gt_iff_lt, ge_iff_le, Int.reduceEq, Int.reduceNe, Int.reduceLT, Int.reduceLE, ne_eq, not_true_eq_false, not_false_eq_true] at hb)) | ((first | refine awg_split (fun hb => ?_) (fun hb => ?_) | refine awsg_split (fun hb => ?_) (fun hb => ?_)) <;> have hb0 := hb <;> (try simp only [decide_eq_true_eq, decide_eq_false_iff_not, Bool.not_eq_true', Bool.not_eq_false', Bool.true_eq_false, Bool.false_eq_true, beq_iff_eq, bne_iff_ne, bne_eq_false_iff_eq, beq_eq_false_iff_ne, gt_iff_lt, ge_iff_le, Int.reduceEq, Int.reduceNe, Int.reduceLT, Int.reduceLE, ne_eq, not_true_eq_false, not_false_eq_true] at hb0) <;> (try simp only [beq_true, beq_false, Bool.not_eq_true', Bool.not_eq_false'] at hb) <;> (simp only [go_sem, Nat.reduceAdd, Nat.reduceSub, Nat.reduceMul, Nat.reduceLeDiff, Nat.reduceLT, Nat.reduceEqDiff, Int.reduceToNat, Int.reduceAdd, Int.reduceMul, Int.reduceSub, Int.reduceLT, Int.reduceLE, Int.reduceEq, Int.reduceNeg, Int.reduceBEq, Int.reduceBNe, ↓reduceIte, reduceCtorEq, hb, hb0] <;> try simp (disch := omega) only [wrap_of])) | (refine And.intro ?_ ?_) | refine awp_skip ?_ | refine awp_ret ?_ | refine awp_exit ?_ | refine awp_label ?_ | refine awloop_step ?_ | fail)
    all_goals first
      | omega
      | (((try simp only [go_sem, Nat.reduceAdd, Nat.reduceSub, Nat.reduceMul, Nat.reduceLeDiff, Nat.reduceLT, Nat.reduceEqDiff, Int.reduceToNat, Int.reduceAdd, Int.reduceMul, Int.reduceSub, Int.reduceLT, Int.reduceLE, Int.reduceEq, Int.reduceNeg, Int.reduceBEq, Int.reduceBNe, ↓reduceIte, reduceCtorEq]); (first | refine ⟨_, rfl, _, rfl, Fin.pure0 0 ?_⟩ | refine ⟨_, rfl, _, rfl, Fin.pure 1 ?_⟩); simp only [AV.low, List.map_cons, List.map_nil, aOne, aev, List.getElem?_cons_zero, List.getElem?_cons_succ, Option.getD_some, List.length_append, List.length_cons, List.length_nil, Nat.lt_irrefl, if_false]; try rfl)
         all_goals simp [AV.low, ofAns, hn])
theorem unit_run (u : Un) (H0 : List AObj) : ARun Try.prog 34 [.ag (cU u)] H0 (.ret (.ag (cU u)) H0) := by
  (refine ARun.intro Try.func34 rfl Try.call34 Try.ntmps34 Try.results34 ?_; simp only [List.length_cons, List.length_nil, List.length_map, Nat.reduceAdd, Nat.reduceSub, List.replicate_succ, List.replicate_zero, List.cons_append, List.nil_append])
  repeat' (first | refine awp_seq ?_ | refine awp_block ?_ | ((first | refine awp_region_k fun Kn Kp hn hp => ?_ | refine oge_intro (by assumption) ?_) <;> (simp only [go_sem, Nat.reduceAdd, Nat.reduceSub, Nat.reduceMul, Nat.reduceLeDiff, Nat.reduceLT, Nat.reduceEqDiff, Int.reduceToNat, Int.reduceAdd, Int.reduceMul, Int.reduceSub, Int.reduceLT, Int.reduceLE, Int.reduceEq, Int.reduceNeg, Int.reduceBEq, Int.reduceBNe, ↓reduceIte, reduceCtorEq] <;> try simp (disch := omega) only [wrap_of])) | (refine hn _ _ ?_; clear hn hp Kn Kp) | (refine hp _ _ _ ?_; clear hn hp Kn Kp) | (refine awp_cond rfl (fun hb => ?_) (fun hb => ?_) <;> (try simp only [decide_eq_true_eq, decide_eq_false_iff_not, Bool.not_eq_true', Bool.not_eq_false', Bool.true_eq_false, Bool.false_eq_true, beq_iff_eq, bne_iff_ne, bne_eq_false_iff_eq, beq_eq_false_iff_ne, gt_iff_lt, ge_iff_le, Int.reduceEq, Int.reduceNe, Int.reduceLT, Int.reduceLE, ne_eq, not_true_eq_false, not_false_eq_true] at hb)) | ((first | refine awg_split (fun hb => ?_) (fun hb => ?_) | refine awsg_split (fun hb => ?_) (fun hb => ?_)) <;> have hb0 := hb <;> (try simp only [decide_eq_true_eq, decide_eq_false_iff_not, Bool.not_eq_true', Bool.not_eq_false', Bool.true_eq_false, Bool.false_eq_true, beq_iff_eq, bne_iff_ne, bne_eq_false_iff_eq, beq_eq_false_iff_ne, gt_iff_lt, ge_iff_le, Int.reduceEq, Int.reduceNe, Int.reduceLT, Int.reduceLE, ne_eq, not_true_eq_false, not_false_eq_true] at hb0) <;> (try simp only [beq_true, beq_false, Bool.not_eq_true', Bool.not_eq_false'] at hb) <;> (simp only [go_sem, Nat.reduceAdd, Nat.reduceSub, Nat.reduceMul, Nat.reduceLeDiff, Nat.reduceLT, Nat.reduceEqDiff, Int.reduceToNat, Int.reduceAdd, Int.reduceMul, Int.reduceSub, Int.reduceLT, Int.reduceLE, Int.reduceEq, Int.reduceNeg, Int.reduceBEq, Int.reduceBNe, ↓reduceIte, reduceCtorEq, hb, hb0] <;> try simp (disch := omega) only [wrap_of])) | (refine And.intro ?_ ?_) | refine awp_skip ?_ | refine awp_ret ?_ | refine awp_exit ?_ | refine awp_label ?_ | refine awloop_step ?_ | fail)
  ((try simp only [go_sem, Nat.reduceAdd, Nat.reduceSub, Nat.reduceMul, Nat.reduceLeDiff, Nat.reduceLT, Nat.reduceEqDiff, Int.reduceToNat, Int.reduceAdd, Int.reduceMul, Int.reduceSub, Int.reduceLT, Int.reduceLE, Int.reduceEq, Int.reduceNeg, Int.reduceBEq, Int.reduceBNe, ↓reduceIte, reduceCtorEq]); (first | refine ⟨_, rfl, _, rfl, Fin.pure0 0 ?_⟩ | refine ⟨_, rfl, _, rfl, Fin.pure 1 ?_⟩); simp only [AV.low, List.map_cons, List.map_nil, aOne, aev, List.getElem?_cons_zero, List.getElem?_cons_succ, Option.getD_some, List.length_append, List.length_cons, List.length_nil, Nat.lt_irrefl, if_false]; try rfl)
  all_goals simp [AV.low]
theorem must_run (x : Int) (H0 : List AObj) : ARun Try.prog 42 [.b true, .i x] H0 (.ret (.tup []) H0) := by
  (refine ARun.intro Try.func42 rfl Try.call42 Try.ntmps42 Try.results42 ?_; simp only [List.length_cons, List.length_nil, List.length_map, Nat.reduceAdd, Nat.reduceSub, List.replicate_succ, List.replicate_zero, List.cons_append, List.nil_append])
  repeat' (first | refine awp_seq ?_ | refine awp_block ?_ | ((first | refine awp_region_k fun Kn Kp hn hp => ?_ | refine oge_intro (by assumption) ?_) <;> (simp only [go_sem, Nat.reduceAdd, Nat.reduceSub, Nat.reduceMul, Nat.reduceLeDiff, Nat.reduceLT, Nat.reduceEqDiff, Int.reduceToNat, Int.reduceAdd, Int.reduceMul, Int.reduceSub, Int.reduceLT, Int.reduceLE, Int.reduceEq, Int.reduceNeg, Int.reduceBEq, Int.reduceBNe, ↓reduceIte, reduceCtorEq] <;> try simp (disch := omega) only [wrap_of])) | (refine hn _ _ ?_; clear hn hp Kn Kp) | (refine hp _ _ _ ?_; clear hn hp Kn Kp) | (refine awp_cond rfl (fun hb => ?_) (fun hb => ?_) <;> (try simp only [decide_eq_true_eq, decide_eq_false_iff_not, Bool.not_eq_true', Bool.not_eq_false', Bool.true_eq_false, Bool.false_eq_true, beq_iff_eq, bne_iff_ne, bne_eq_false_iff_eq, beq_eq_false_iff_ne, gt_iff_lt, ge_iff_le, Int.reduceEq, Int.reduceNe, Int.reduceLT, Int.reduceLE, ne_eq, not_true_eq_false, not_false_eq_true] at hb)) | ((first | refine awg_split (fun hb => ?_) (fun hb => ?_) | refine awsg_split (fun hb => ?_) (fun hb => ?_)) <;> have hb0 := hb <;> (try simp only [decide_eq_true_eq, decide_eq_false_iff_not, Bool.not_eq_true', Bool.not_eq_false', Bool.true_eq_false, Bool.false_eq_true, beq_iff_eq, bne_iff_ne, bne_eq_false_iff_eq, beq_eq_false_iff_ne, gt_iff_lt, ge_iff_le, Int.reduceEq, Int.reduceNe, Int.reduceLT, Int.reduceLE, ne_eq, not_true_eq_false, not_false_eq_true] at hb0) <;> (try simp only [beq_true, beq_false, Bool.not_eq_true', Bool.not_eq_false'] at hb) <;> (simp only [go_sem, Nat.reduceAdd, Nat.reduceSub, Nat.reduceMul, Nat.reduceLeDiff, Nat.reduceLT, Nat.reduceEqDiff, Int.reduceToNat, Int.reduceAdd, Int.reduceMul, Int.reduceSub, Int.reduceLT, Int.reduceLE, Int.reduceEq, Int.reduceNeg, Int.reduceBEq, Int.reduceBNe, ↓reduceIte, reduceCtorEq, hb, hb0] <;> try simp (disch := omega) only [wrap_of])) | (refine And.intro ?_ ?_) | refine awp_skip ?_ | refine awp_ret ?_ | refine awp_exit ?_ | refine awp_label ?_ | refine awloop_step ?_ | fail)
  ((try simp only [go_sem, Nat.reduceAdd, Nat.reduceSub, Nat.reduceMul, Nat.reduceLeDiff, Nat.reduceLT, Nat.reduceEqDiff, Int.reduceToNat, Int.reduceAdd, Int.reduceMul, Int.reduceSub, Int.reduceLT, Int.reduceLE, Int.reduceEq, Int.reduceNeg, Int.reduceBEq, Int.reduceBNe, ↓reduceIte, reduceCtorEq]); (first | refine ⟨_, rfl, _, rfl, Fin.pure0 0 ?_⟩ | refine ⟨_, rfl, _, rfl, Fin.pure 1 ?_⟩); simp only [AV.low, List.map_cons, List.map_nil, aOne, aev, List.getElem?_cons_zero, List.getElem?_cons_succ, Option.getD_some, List.length_append, List.length_cons, List.length_nil, Nat.lt_irrefl, if_false]; try rfl)
theorem must_pan (x : Int) (H0 : List AObj) : ARun Try.prog 42 [.b false, .i x] H0 (.pan (.sc (.iface 35 (.int .i64 x))) H0) := by
  (refine ARun.intro Try.func42 rfl Try.call42 Try.ntmps42 Try.results42 ?_; simp only [List.length_cons, List.length_nil, List.length_map, Nat.reduceAdd, Nat.reduceSub, List.replicate_succ, List.replicate_zero, List.cons_append, List.nil_append])
  repeat' (first | refine awp_seq ?_ | refine awp_block ?_ | ((first | refine awp_region_k fun Kn Kp hn hp => ?_ | refine oge_intro (by assumption) ?_) <;> (simp only [go_sem, Nat.reduceAdd, Nat.reduceSub, Nat.reduceMul, Nat.reduceLeDiff, Nat.reduceLT, Nat.reduceEqDiff, Int.reduceToNat, Int.reduceAdd, Int.reduceMul, Int.reduceSub, Int.reduceLT, Int.reduceLE, Int.reduceEq, Int.reduceNeg, Int.reduceBEq, Int.reduceBNe, ↓reduceIte, reduceCtorEq] <;> try simp (disch := omega) only [wrap_of])) | (refine hn _ _ ?_; clear hn hp Kn Kp) | (refine hp _ _ _ ?_; clear hn hp Kn Kp) | (refine awp_cond rfl (fun hb => ?_) (fun hb => ?_) <;> (try simp only [decide_eq_true_eq, decide_eq_false_iff_not, Bool.not_eq_true', Bool.not_eq_false', Bool.true_eq_false, Bool.false_eq_true, beq_iff_eq, bne_iff_ne, bne_eq_false_iff_eq, beq_eq_false_iff_ne, gt_iff_lt, ge_iff_le, Int.reduceEq, Int.reduceNe, Int.reduceLT, Int.reduceLE, ne_eq, not_true_eq_false, not_false_eq_true] at hb)) | ((first | refine awg_split (fun hb => ?_) (fun hb => ?_) | refine awsg_split (fun hb => ?_) (fun hb => ?_)) <;> have hb0 := hb <;> (try simp only [decide_eq_true_eq, decide_eq_false_iff_not, Bool.not_eq_true', Bool.not_eq_false', Bool.true_eq_false, Bool.false_eq_true, beq_iff_eq, bne_iff_ne, bne_eq_false_iff_eq, beq_eq_false_iff_ne, gt_iff_lt, ge_iff_le, Int.reduceEq, Int.reduceNe, Int.reduceLT, Int.reduceLE, ne_eq, not_true_eq_false, not_false_eq_true] at hb0) <;> (try simp only [beq_true, beq_false, Bool.not_eq_true', Bool.not_eq_false'] at hb) <;> (simp only [go_sem, Nat.reduceAdd, Nat.reduceSub, Nat.reduceMul, Nat.reduceLeDiff, Nat.reduceLT, Nat.reduceEqDiff, Int.reduceToNat, Int.reduceAdd, Int.reduceMul, Int.reduceSub, Int.reduceLT, Int.reduceLE, Int.reduceEq, Int.reduceNeg, Int.reduceBEq, Int.reduceBNe, ↓reduceIte, reduceCtorEq, hb, hb0] <;> try simp (disch := omega) only [wrap_of])) | (refine And.intro ?_ ?_) | refine awp_skip ?_ | refine awp_ret ?_ | refine awp_exit ?_ | refine awp_label ?_ | refine awloop_step ?_ | fail)
  ((first | refine ⟨_, rfl, Fin.pure0 0 ?_⟩ | refine ⟨_, rfl, Fin.pure 1 ?_⟩); simp only [AV.low]; try rfl)
theorem fits_run (n : Int) (H0 : List AObj) : ARun Try.prog 45 [.i n] H0 (.ret (.b (decide (-4 ≤ n ∧ n ≤ 4))) H0) := by
  (refine ARun.intro Try.func45 rfl Try.call45 Try.ntmps45 Try.results45 ?_; simp only [List.length_cons, List.length_nil, List.length_map, Nat.reduceAdd, Nat.reduceSub, List.replicate_succ, List.replicate_zero, List.cons_append, List.nil_append])
  repeat' (first | refine awp_seq ?_ | refine awp_block ?_ | ((first | refine awp_region_k fun Kn Kp hn hp => ?_ | refine oge_intro (by assumption) ?_) <;> (simp only [go_sem, Nat.reduceAdd, Nat.reduceSub, Nat.reduceMul, Nat.reduceLeDiff, Nat.reduceLT, Nat.reduceEqDiff, Int.reduceToNat, Int.reduceAdd, Int.reduceMul, Int.reduceSub, Int.reduceLT, Int.reduceLE, Int.reduceEq, Int.reduceNeg, Int.reduceBEq, Int.reduceBNe, ↓reduceIte, reduceCtorEq] <;> try simp (disch := omega) only [wrap_of])) | (refine hn _ _ ?_; clear hn hp Kn Kp) | (refine hp _ _ _ ?_; clear hn hp Kn Kp) | (refine awp_cond rfl (fun hb => ?_) (fun hb => ?_) <;> (try simp only [decide_eq_true_eq, decide_eq_false_iff_not, Bool.not_eq_true', Bool.not_eq_false', Bool.true_eq_false, Bool.false_eq_true, beq_iff_eq, bne_iff_ne, bne_eq_false_iff_eq, beq_eq_false_iff_ne, gt_iff_lt, ge_iff_le, Int.reduceEq, Int.reduceNe, Int.reduceLT, Int.reduceLE, ne_eq, not_true_eq_false, not_false_eq_true] at hb)) | ((first | refine awg_split (fun hb => ?_) (fun hb => ?_) | refine awsg_split (fun hb => ?_) (fun hb => ?_)) <;> have hb0 := hb <;> (try simp only [decide_eq_true_eq, decide_eq_false_iff_not, Bool.not_eq_true', Bool.not_eq_false', Bool.true_eq_false, Bool.false_eq_true, beq_iff_eq, bne_iff_ne, bne_eq_false_iff_eq, beq_eq_false_iff_ne, gt_iff_lt, ge_iff_le, Int.reduceEq, Int.reduceNe, Int.reduceLT, Int.reduceLE, ne_eq, not_true_eq_false, not_false_eq_true] at hb0) <;> (try simp only [beq_true, beq_false, Bool.not_eq_true', Bool.not_eq_false'] at hb) <;> (simp only [go_sem, Nat.reduceAdd, Nat.reduceSub, Nat.reduceMul, Nat.reduceLeDiff, Nat.reduceLT, Nat.reduceEqDiff, Int.reduceToNat, Int.reduceAdd, Int.reduceMul, Int.reduceSub, Int.reduceLT, Int.reduceLE, Int.reduceEq, Int.reduceNeg, Int.reduceBEq, Int.reduceBNe, ↓reduceIte, reduceCtorEq, hb, hb0] <;> try simp (disch := omega) only [wrap_of])) | (refine And.intro ?_ ?_) | refine awp_skip ?_ | refine awp_ret ?_ | refine awp_exit ?_ | refine awp_label ?_ | refine awloop_step ?_ | fail)
  all_goals
    ((try simp only [go_sem, Nat.reduceAdd, Nat.reduceSub, Nat.reduceMul, Nat.reduceLeDiff, Nat.reduceLT, Nat.reduceEqDiff, Int.reduceToNat, Int.reduceAdd, Int.reduceMul, Int.reduceSub, Int.reduceLT, Int.reduceLE, Int.reduceEq, Int.reduceNeg, Int.reduceBEq, Int.reduceBNe, ↓reduceIte, reduceCtorEq]); (first | refine ⟨_, rfl, _, rfl, Fin.pure0 0 ?_⟩ | refine ⟨_, rfl, _, rfl, Fin.pure 1 ?_⟩); simp only [AV.low, List.map_cons, List.map_nil, aOne, aev, List.getElem?_cons_zero, List.getElem?_cons_succ, Option.getD_some, List.length_append, List.length_cons, List.length_nil, Nat.lt_irrefl, if_false]; try rfl)
    all_goals simp [hb]
end Go.Proofs.Ytkchihkmhojdnaa.Y

set_option linter.unusedVariables false
set_option linter.unusedSimpArgs false
namespace Go.Proofs.Ytkchihkmhojdnaa.Y
open Go.Proofs.Ytkchihkmhojdnaa.AL Go.Proofs Go

theorem must_c (b : Bool) (x : Int) (H0 : List AObj) : ARun Try.prog 42 [.b b, .i x] H0 (cond b (.ret (.tup []) H0) (.pan (.pv (.sc (.iface 35 (.int .i64 x)))) H0)) := by
  cases b
  · exact must_pan x H0
  · exact must_run x H0

def outC (u : Un) (H : List AObj) : AOut := if u.ok then .ret (.ag (cU u)) H else .pan (.sc (.iface 35 (.int .i64 13))) H
theorem plus_run (a b : Un) (s : Int) (ha : a.ok) (hb0 : b.ok) (hs : s = 1 ∨ s = -1) (H0 : List AObj) : ARun Try.prog 43 [.ag (cU a), .ag (cU b), .i s] H0 (outC (a.add b s) H0) := by
  obtain ⟨a1, a2, a3, a4, a5, a6⟩ := ha
  obtain ⟨b1, b2, b3, b4, b5, b6⟩ := hb0
  rcases hs with rfl | rfl
  all_goals
    (refine ARun.intro Try.func43 rfl Try.call43 Try.ntmps43 Try.results43 ?_; simp only [List.length_cons, List.length_nil, List.length_map, Nat.reduceAdd, Nat.reduceSub, List.replicate_succ, List.replicate_zero, List.cons_append, List.nil_append])
    repeat' (first | refine awp_seq ?_ | refine awp_block ?_ | ((first | refine awp_region_k fun Kn Kp hn hp => ?_ | refine awp_drawn_k (id := 4) [10] [] [.win [0], .win [0], .win [0], .win [0], .win [0], .win [0], .win [0], .win [0], .win [0], .win [0], .eff 0] 1 rfl (by as_aux_lemma => kernel_rfl) fun Kn Kp hn hp => ?_ | refine oge_intro (by assumption) ?_) <;> (simp only [go_sem, Nat.reduceAdd, Nat.reduceSub, Nat.reduceMul, Nat.reduceLeDiff, Nat.reduceLT, Nat.reduceEqDiff, Int.reduceToNat, Int.reduceAdd, Int.reduceMul, Int.reduceSub, Int.reduceLT, Int.reduceLE, Int.reduceEq, Int.reduceNeg, Int.reduceBEq, Int.reduceBNe, ↓reduceIte, reduceCtorEq] <;> try simp (disch := omega) only [wrap_of])) | (refine hn _ _ ?_; clear hn hp Kn Kp) | (refine hp _ _ _ ?_; clear hn hp Kn Kp) | (refine awp_cond rfl (fun hb => ?_) (fun hb => ?_) <;> (try simp only [decide_eq_true_eq, decide_eq_false_iff_not, Bool.not_eq_true', Bool.not_eq_false', Bool.true_eq_false, Bool.false_eq_true, beq_iff_eq, bne_iff_ne, bne_eq_false_iff_eq, beq_eq_false_iff_ne, gt_iff_lt, ge_iff_le, Int.reduceEq, Int.reduceNe, Int.reduceLT, Int.reduceLE, ne_eq, not_true_eq_false, not_false_eq_true] at hb)) | ((first | refine awg_split (fun hb => ?_) (fun hb => ?_) | refine awsg_split (fun hb => ?_) (fun hb => ?_)) <;> have hb0 := hb <;> (try simp only [decide_eq_true_eq, decide_eq_false_iff_not, Bool.not_eq_true', Bool.not_eq_false', Bool.true_eq_false, Bool.false_eq_true, beq_iff_eq, bne_iff_ne, bne_eq_false_iff_eq, beq_eq_false_iff_ne, gt_iff_lt, ge_iff_le, Int.reduceEq, Int.reduceNe, Int.reduceLT, Int.reduceLE, ne_eq, not_true_eq_false, not_false_eq_true] at hb0) <;> (try simp only [beq_true, beq_false, Bool.not_eq_true', Bool.not_eq_false'] at hb) <;> (simp only [go_sem, Nat.reduceAdd, Nat.reduceSub, Nat.reduceMul, Nat.reduceLeDiff, Nat.reduceLT, Nat.reduceEqDiff, Int.reduceToNat, Int.reduceAdd, Int.reduceMul, Int.reduceSub, Int.reduceLT, Int.reduceLE, Int.reduceEq, Int.reduceNeg, Int.reduceBEq, Int.reduceBNe, ↓reduceIte, reduceCtorEq, hb, hb0] <;> try simp (disch := omega) only [wrap_of])) | (refine And.intro ?_ ?_) | refine awp_skip ?_ | refine awp_ret ?_ | refine awp_exit ?_ | refine awp_label ?_ | refine awloop_step ?_ | fail)
    refine awp_loop 4 ?_
    repeat' (first | refine awp_seq ?_ | refine awp_block ?_ | ((first | refine awp_region_k fun Kn Kp hn hp => ?_ | refine awp_drawn_k (id := 4) [10] [] [.win [0], .win [0], .win [0], .win [0], .win [0], .win [0], .win [0], .win [0], .win [0], .win [0], .eff 0] 1 rfl (by as_aux_lemma => kernel_rfl) fun Kn Kp hn hp => ?_ | refine oge_intro (by assumption) ?_) <;> (simp only [go_sem, Nat.reduceAdd, Nat.reduceSub, Nat.reduceMul, Nat.reduceLeDiff, Nat.reduceLT, Nat.reduceEqDiff, Int.reduceToNat, Int.reduceAdd, Int.reduceMul, Int.reduceSub, Int.reduceLT, Int.reduceLE, Int.reduceEq, Int.reduceNeg, Int.reduceBEq, Int.reduceBNe, ↓reduceIte, reduceCtorEq] <;> try simp (disch := omega) only [wrap_of])) | (refine hn _ _ ?_; clear hn hp Kn Kp) | (refine hp _ _ _ ?_; clear hn hp Kn Kp) | (refine awp_cond rfl (fun hb => ?_) (fun hb => ?_) <;> (try simp only [decide_eq_true_eq, decide_eq_false_iff_not, Bool.not_eq_true', Bool.not_eq_false', Bool.true_eq_false, Bool.false_eq_true, beq_iff_eq, bne_iff_ne, bne_eq_false_iff_eq, beq_eq_false_iff_ne, gt_iff_lt, ge_iff_le, Int.reduceEq, Int.reduceNe, Int.reduceLT, Int.reduceLE, ne_eq, not_true_eq_false, not_false_eq_true] at hb)) | ((first | refine awg_split (fun hb => ?_) (fun hb => ?_) | refine awsg_split (fun hb => ?_) (fun hb => ?_) | refine awe_cases (must_c _ _ _) (fun hb => ?_) (fun hb => ?_)) <;> have hb0 := hb <;> (try simp only [decide_eq_true_eq, decide_eq_false_iff_not, Bool.not_eq_true', Bool.not_eq_false', Bool.true_eq_false, Bool.false_eq_true, beq_iff_eq, bne_iff_ne, bne_eq_false_iff_eq, beq_eq_false_iff_ne, gt_iff_lt, ge_iff_le, Int.reduceEq, Int.reduceNe, Int.reduceLT, Int.reduceLE, ne_eq, not_true_eq_false, not_false_eq_true] at hb0) <;> (try simp only [beq_true, beq_false, Bool.not_eq_true', Bool.not_eq_false'] at hb) <;> (simp only [go_sem, Nat.reduceAdd, Nat.reduceSub, Nat.reduceMul, Nat.reduceLeDiff, Nat.reduceLT, Nat.reduceEqDiff, Int.reduceToNat, Int.reduceAdd, Int.reduceMul, Int.reduceSub, Int.reduceLT, Int.reduceLE, Int.reduceEq, Int.reduceNeg, Int.reduceBEq, Int.reduceBNe, ↓reduceIte, reduceCtorEq, hb, hb0] <;> try simp (disch := omega) only [wrap_of])) | (refine And.intro ?_ ?_) | refine awp_skip ?_ | refine awp_ret ?_ | refine awp_exit ?_ | refine awp_label ?_ | refine awloop_step ?_ | fail)
    all_goals first
      | (rw [outC, if_pos (by simp only [Un.ok, Un.add]; omega)]
         ((try simp only [go_sem, Nat.reduceAdd, Nat.reduceSub, Nat.reduceMul, Nat.reduceLeDiff, Nat.reduceLT, Nat.reduceEqDiff, Int.reduceToNat, Int.reduceAdd, Int.reduceMul, Int.reduceSub, Int.reduceLT, Int.reduceLE, Int.reduceEq, Int.reduceNeg, Int.reduceBEq, Int.reduceBNe, ↓reduceIte, reduceCtorEq]); (first | refine ⟨_, rfl, _, rfl, Fin.pure0 0 ?_⟩ | refine ⟨_, rfl, _, rfl, Fin.pure 1 ?_⟩); simp only [AV.low, List.map_cons, List.map_nil, aOne, aev, List.getElem?_cons_zero, List.getElem?_cons_succ, Option.getD_some, List.length_append, List.length_cons, List.length_nil, Nat.lt_irrefl, if_false]; try rfl)
         all_goals simp [Un.add, cU])
      | (rw [outC, if_neg (by simp only [Un.ok, Un.add]; omega)]
         ((first | refine ⟨_, rfl, Fin.pure0 0 ?_⟩ | refine ⟨_, rfl, Fin.pure 1 ?_⟩); simp only [AV.low]; try rfl))
end Go.Proofs.Ytkchihkmhojdnaa.Y
