/- Part 2 of the proofs of seat YtimmncjdknlegaaDoor: what the texts behind it lean on (abstract memory, walks of functions, plain laws). -/
import Derived.Test.YtimmncjdknlegaaDoorM1
import Derived.Carry
import Derived.ChangeArms
import Derived.ChangeSame
import Derived.JoinedCond
import Derived.ProofKit
import Derived.OpenShut

/- Plain laws: sizes of expressions. -/
set_option linter.unusedVariables false
namespace Go.Proofs.YtimmncjdknlegaaDoor.AL

theorem Ex.ind {p : Ex → Prop} (h : ∀ e, (∀ k ∈ e.kids, p k) → p e) (e : Ex) : p e :=
  Ex.rec (motive_1 := p) (motive_2 := fun l => ∀ k ∈ l, p k) (fun op n u kids ih => h _ ih) (fun k hk => by cases hk)
    (fun e es h1 h2 k hk => by rcases List.mem_cons.1 hk with rfl | hk; exact h1; exact h2 k hk) e
theorem St.ind {p : St → Prop} (h : ∀ s, (∀ k ∈ s.thn, p k) → (∀ k ∈ s.els, p k) → p s) (s : St) : p s :=
  St.rec (motive_1 := p) (motive_2 := fun l => ∀ k ∈ l, p k) (fun _ _ _ _ _ t e ih1 ih2 => h _ ih1 ih2) (fun k hk => by cases hk)
    (fun e es h1 h2 k hk => by rcases List.mem_cons.1 hk with rfl | hk; exact h1; exact h2 k hk) s

mutual
def size : Ex → Int → Int
  | .mk _ _ _ kids, b => sizeL kids b 1
def sizeL : List Ex → Int → Int → Int
  | [], _, n => n
  | e :: es, b, n => if n ≤ b then sizeL es b (n + size e (b - n)) else n
end
theorem size_eq (e : Ex) (b : Int) : size e b = sizeL e.kids b 1 := by cases e; simp [size, Ex.kids]

theorem size_bd (e : Ex) : ∀ b, 1 ≤ size e b ∧ (size e b ≤ 1 ∨ size e b ≤ b + 1) := by
  induction e using Ex.ind with
  | h e ih =>
    intro b
    rw [size_eq]
    have key : ∀ l : List Ex, (∀ k ∈ l, ∀ b, 1 ≤ size k b ∧ (size k b ≤ 1 ∨ size k b ≤ b + 1)) → ∀ n, 1 ≤ n → n ≤ sizeL l b n ∧ (sizeL l b n ≤ n ∨ sizeL l b n ≤ b + 1) := by
      intro l
      induction l with
      | nil => intro _ n hn; simp [sizeL]
      | cons x xs ihl =>
        intro h n hn
        simp only [sizeL]
        split
        · have h1 := h x (by simp) (b - n)
          have h2 := ihl (fun k hk => h k (by simp [hk])) (n + size x (b - n)) (by omega)
          omega
        · omega
    have := key e.kids ih 1 (by omega)
    omega

-- All nodes of an expression.
mutual
def nodes : Ex → Nat
  | .mk _ _ _ kids => 1 + nodesL kids
def nodesL : List Ex → Nat
  | [] => 0
  | e :: es => nodes e + nodesL es
end
theorem nodes_eq (e : Ex) : nodes e = 1 + nodesL e.kids := by cases e; simp [nodes, Ex.kids]

theorem size_nodes (e : Ex) : ∀ b : Int, ((nodes e : Int) ≤ b ∨ (nodes e = 1) → size e b = nodes e) ∧ (b < nodes e → b < size e b ∨ b < 1) := by
  induction e using Ex.ind with
  | h e ih =>
    intro b
    rw [size_eq, nodes_eq]
    have key : ∀ l : List Ex, (∀ k ∈ l, ∀ b : Int, ((nodes k : Int) ≤ b ∨ (nodes k = 1) → size k b = nodes k) ∧ (b < nodes k → b < size k b ∨ b < 1)) → ∀ n : Int, 1 ≤ n →
        ((n + nodesL l ≤ b → sizeL l b n = n + nodesL l) ∧ (b < n + nodesL l → n ≤ b → b < sizeL l b n) ∧ (b < n → sizeL l b n = n)) := by
      intro l
      induction l with
      | nil => intro _ n hn; exact ⟨fun _ => by simp [sizeL, nodesL], fun h1 h2 => by simp only [nodesL] at h1; omega, fun _ => by simp [sizeL]⟩
      | cons x xs ihl =>
        intro h n hn
        have h1 := h x (by simp) (b - n)
        have h2 := ihl (fun k hk => h k (by simp [hk])) (n + size x (b - n)) (by have := size_bd x (b - n); omega)
        have h3 := size_bd x (b - n)
        have h4 : 1 ≤ nodes x := by rw [nodes_eq]; omega
        simp only [sizeL, nodesL]
        split
        · refine ⟨?_, ?_, ?_⟩
          · intro hle
            have e1 := h1.1 (by omega)
            rw [h2.1 (by omega)]; omega
          · intro hlt hnb
            by_cases hx : (nodes x : Int) ≤ b - n
            · have e1 := h1.1 (.inl hx)
              by_cases hy : n + size x (b - n) ≤ b
              · exact h2.2.1 (by omega) hy
              · rw [h2.2.2 (by omega)]; omega
            · have := h1.2 (by omega)
              rw [h2.2.2 (by omega)]; omega
          · omega
        · refine ⟨?_, ?_, ?_⟩ <;> intros <;> omega
    have hk := key e.kids ih 1 (by omega)
    cases hl : e.kids with
    | nil => simp only [sizeL, nodesL]; omega
    | cons x xs =>
      rw [hl] at hk
      have h4 : 1 ≤ nodesL (x :: xs) := by simp only [nodesL]; have : 1 ≤ nodes x := by rw [nodes_eq]; omega
                                           omega
      refine ⟨fun h => ?_, fun h => ?_⟩
      · rw [hk.1 (by omega)]; omega
      · by_cases hb : 1 ≤ b
        · exact .inl (hk.2.1 (by omega) hb)
        · exact .inr (by omega)

/-- The bound of 'Size'. -/
theorem size_gt (e : Ex) (b : Int) (hb : 1 ≤ b) : b < size e b ↔ b < nodes e := by
  have := size_nodes e b
  constructor
  · intro h
    rcases Int.lt_or_le b (nodes e) with h' | h'
    · exact h'
    · rw [this.1 (.inl h')] at h; omega
  · intro h; have := this.2 h; omega
end Go.Proofs.YtimmncjdknlegaaDoor.AL

/- From the data that a row reads to plain Lean data; and a law's row out of what its walk says. -/
set_option linter.unusedVariables false
set_option linter.unusedSectionVars false
set_option linter.unusedSimpArgs false
namespace Go.Proofs.YtimmncjdknlegaaDoor.AL
variable [G : GTab]
open Go.ChangeShapes Go.WideShapes Go.RowKit

abbrev Old (w : World) : Nat → Prop := fun b => b < w.heap.size
/-- Cells told by pure values. -/
inductive PRelL (w : World) (S : Nat → Prop) : List PV → List Value → Prop
  | nil : PRelL w S [] []
  | cons {p v ps vs} (h : PRel w S p v) (t : PRelL w S ps vs) : PRelL w S (p :: ps) (v :: vs)

section
variable {w : World} {S : Nat → Prop}
theorem PRelL.append {ps qs : List PV} {vs us : List Value} (h : PRelL w S ps vs) (k : PRelL w S qs us) : PRelL w S (ps ++ qs) (vs ++ us) := by
  induction h with
  | nil => exact k
  | cons h t ih => exact .cons h ih
theorem PRelL.len {ps : List PV} {vs : List Value} (h : PRelL w S ps vs) : ps.length = vs.length := by
  induction h with
  | nil => rfl
  | cons h t ih => simp [ih]
theorem PRelL.get {ps : List PV} {vs : List Value} (h : PRelL w S ps vs) : ∀ (j : Nat) (p : PV), ps[j]? = some p → ∃ v, vs[j]? = some v ∧ PRel w S p v := by
  induction h with
  | nil => intro j p h; simp at h
  | cons h t ih =>
    intro j p hj
    cases j with
    | zero => simp at hj; subst hj; exact ⟨_, rfl, h⟩
    | succ j => simp at hj; exact ih j p hj
theorem PRelL.one {ps : List PV} {vs : List Value} (h : PRelL w S ps vs) : ∀ v ∈ vs, v.oneCell' = true := by
  induction h with
  | nil => simp
  | cons h t ih =>
    intro v hv
    rcases List.mem_cons.1 hv with rfl | hv
    · exact h.one
    · exact ih v hv
theorem PRelL.arel {B : BMap} {H : List AObj} {ps : List PV} {vs : List Value} (h : PRelL w S ps vs) : ARelL w B S H (ps.map AV.pv) vs := by
  induction h with
  | nil => exact ARelL.nil
  | cons h t ih => exact ARelL.cons (.pv h) ih
theorem PRelL.ag {B : BMap} {H : List AObj} {ps : List PV} {vs : Array Value} (h : PRelL w S ps vs.toList) : ARel w B S H (.ag ps) (.agg vs) := by
  have := h.arel (B := B) (H := H)
  have h2 := ARel.agg this.1 h.one this.2
  simpa using h2
end

/-- How much a datum bears, by whatever count. -/
structure Bulk (β : (H : Type) → DataW H → Nat) (βl : (H : Type) → List (DataW H) → Nat) : Prop where
  lit : ∀ H l, 1 ≤ β H (.lit l)
  str : ∀ H b, β H (.lit (.string b)) = b.length + 1
  nil : ∀ H, β H .nil = 1
  slice : ∀ H es sp, β H (.slice es sp) = βl H es + βl H sp + 1
  agg : ∀ H ps, β H (.agg ps) = βl H ps + 1
  lnil : ∀ H, βl H [] = 0
  lcons : ∀ H d l, βl H (d :: l) = β H d + βl H l

/-- Data of type t is read asx α, with fuel up to n: told by enc, of weight at most the datum's, with property p. -/
def Rd (P : Program) (β : (H : Type) → DataW H → Nat) (n : Nat) (t : TypeId) {α : Type} (enc : α → List PV) (μ : α → Nat) (p : α → Prop) : Prop :=
  ∀ {H : Type} {e : TypeId × Value → H} {w : World} {sp : Nat → Bool} {hd : Bool} {fuel : Nat} {cs : List Value} {x : DataW H × List MemPlace}, fuel ≤ n →
    DataW.trod e P w 0 sp hd fuel t cs = some x → (∀ q ∈ x.2, q.block < w.heap.size) → ∃ a, PRelL w (Old w) (enc a) cs ∧ μ a ≤ β H x.1 ∧ p a

section
variable {P : Program} {β : (H : Type) → DataW H → Nat} {βl : (H : Type) → List (DataW H) → Nat} {n : Nat} {t : TypeId}
theorem Rd.zero {α : Type} {enc : α → List PV} {μ : α → Nat} {p : α → Prop} : Rd P β 0 t enc μ p := by
  intro H e w sp hd fuel cs x hn h _
  cases fuel with
  | zero => unfold DataW.trod at h; cases h
  | succ k => omega
theorem Rd.int (hB : Bulk β βl) {k : IntKind} (ht : P.underlying t = some (.int k)) : Rd P β n t (fun m : Int => [.sc (.int k m)]) (fun _ => 1) (fun m => (Lit.int k m).wf = true) := by
  intro H e w sp hd fuel cs x hn h _
  obtain ⟨m, rfl, rfl, hw⟩ := DataW.trod_int ht h
  exact ⟨m, .cons (.sc rfl) .nil, hB.lit _ _, hw⟩
theorem Rd.bool (hB : Bulk β βl) (ht : P.underlying t = some .bool) : Rd P β n t (fun m : Bool => [.sc (.bool m)]) (fun _ => 1) (fun _ => True) := by
  intro H e w sp hd fuel cs x hn h _
  obtain ⟨m, rfl, rfl⟩ := DataW.trod_bool ht h
  exact ⟨m, .cons (.sc rfl) .nil, hB.lit _ _, trivial⟩
theorem Rd.str (hB : Bulk β βl) (ht : P.underlying t = some .string) : Rd P β n t (fun m : ByteArray => [.sc (.string m)]) (fun m => m.size + 1) (fun m => m.size ≤ maxLen) := by
  intro H e w sp hd fuel cs x hn h _
  obtain ⟨m, rfl, rfl, hm⟩ := DataW.trod_string ht h
  refine ⟨m, .cons (.sc rfl) .nil, ?_, hm⟩
  show m.size + 1 ≤ β H (.lit (.string m.data.toList))
  rw [hB.str, Array.length_toList]; exact Nat.le_refl _

theorem add_add' (a : Addr) (i j : Nat) : (a.add i).add j = a.add (i + j) := by
  cases a with
  | mk b o s =>
    by_cases hi : i = 0
    · subst hi; simp [Addr.add]
    · by_cases hj : j = 0
      · subst hj; simp [Addr.add]
      · simp [Addr.add, hi, hj, Nat.add_assoc]
theorem choice_list {α β : Type} {R : Nat → α → β → Prop} : ∀ (l : List β) (k : Nat), (∀ i y, l[i]? = some y → ∃ a, R (k + i) a y) → ∃ asx : List α, asx.length = l.length ∧ ∀ (i : Nat) (a : α) (y : β), asx[i]? = some a → l[i]? = some y → R (k + i) a y
  | [], k, _ => ⟨[], rfl, fun i a y h => by simp at h⟩
  | y :: l, k, h => by
    obtain ⟨a, ha⟩ := h 0 y rfl
    obtain ⟨asx, h1, h2⟩ := choice_list (R := R) l (k + 1) (fun i z hz => by
      obtain ⟨b, hb⟩ := h (i + 1) z (by simpa using hz)
      exact ⟨b, by rw [show k + 1 + i = k + (i + 1) by omega]; exact hb⟩)
    refine ⟨a :: asx, by simp [h1], fun i b z hi hz => ?_⟩
    cases i with
    | zero => simp at hi hz; subst hi; subst hz; exact ha
    | succ i => simp at hi hz; have := h2 i b z hi hz; rwa [show k + (i + 1) = k + 1 + i by omega]

/-- The weights of a list. -/
def sumM {α : Type} (μ : α → Nat) : List α → Nat
  | [] => 0
  | a :: l => μ a + sumM μ l

theorem sum_le (hB : Bulk β βl) {H : Type} {α : Type} {μ : α → Nat} : ∀ (asx : List α) (ds : List (DataW H)), asx.length = ds.length → (∀ (i : Nat) (a : α) (d : DataW H), asx[i]? = some a → ds[i]? = some d → μ a ≤ β H d) → sumM μ asx ≤ βl H ds
  | [], [], _, _ => by simp [sumM]
  | [], _ :: _, h, _ => by simp at h
  | _ :: _, [], h, _ => by simp at h
  | a :: asx, d :: ds, h, k => by
    have h1 := k 0 a d rfl rfl
    have h2 := sum_le hB asx ds (by simpa using h) (fun i a d hi hd => k (i + 1) a d (by simpa using hi) (by simpa using hd))
    rw [hB.lcons]
    simp only [sumM]; omega

theorem Rd.slice (hB : Bulk β βl) {e : TypeId} {sz : Nat} (ht : P.underlying t = some (.slice e)) (hsz : P.cellsOf e = sz) (h0 : 0 < sz) {α : Type} {enc : α → List PV} {μ : α → Nat} {p : α → Prop}
    (R : Rd P β n e enc μ p) (hlen : ∀ a, (enc a).length = sz) : Rd P β (n + 1) t (fun l : List α => [.rs sz (l.map enc)]) (fun l => sumM μ l + 1) (fun l => ∀ a ∈ l, p a) := by
  intro H E w sp hd fuel cs x hn h hlt
  rcases DataW.trod_slice ht h with ⟨rfl, rfl⟩ | ⟨a, len, cap, elems, rest, m, rfl, rfl, rfl, hb, hlc, hcm, hl, hel, _, _⟩
  · refine ⟨[], .cons (PRel.rs (rows := []) (fun _ _ => undef) (Nat.le_refl _) (Nat.zero_le _) h0 (fun _ => rfl) (by simp) (by simp) (by simp)) .nil, ?_, by simp⟩
    simp only [sumM]; rw [hB.nil]; omega
  · subst hl
    have one : ∀ i y, elems[i]? = some y → ∃ b : α, (∃ us : List Value, us.length = sz ∧ (∀ j u, us[j]? = some u → w.cell? ((a.add (i * sz)).add j) = some u) ∧ PRelL w (Old w) (enc b) us) ∧ μ b ≤ β H y.1 ∧ p b := by
      intro i y hy
      have hi := (List.getElem?_eq_some_iff.1 hy).1
      have h1 := hel i hi
      rw [hy, hsz] at h1
      simp only [Option.bind_eq_some_iff] at h1
      obtain ⟨us, hu, h2⟩ := h1
      obtain ⟨b, h3, h4, h5⟩ := R (by omega) h2 (fun q hq => hlt q (by
        simp only [List.mem_append, List.mem_flatMap]
        exact .inr ⟨y, .inl (List.mem_of_getElem? hy), hq⟩))
      obtain ⟨_, k1, k2⟩ := World.cells?_some hu
      refine ⟨b, ⟨us, k1, fun j u hj => ?_, h3⟩, h4, h5⟩
      have hj' := (List.getElem?_eq_some_iff.1 hj).1
      have := k2 j (by omega)
      rw [hj] at this
      exact this
    obtain ⟨asx, hal, ha⟩ := choice_list (R := fun i (b : α) (y : DataW H × List MemPlace) => (∃ us : List Value, us.length = sz ∧ (∀ j u, us[j]? = some u → w.cell? ((a.add (i * sz)).add j) = some u) ∧ PRelL w (Old w) (enc b) us) ∧ μ b ≤ β H y.1 ∧ p b) elems 0
      (fun i y hy => by simpa using one i y hy)
    have ablk : 0 < elems.length → a.block < w.heap.size := by
      intro h
      have : MemPlace.cell a.block a.off ∈ MemPlace.row a ((elems.length + rest.length) * P.cellsOf e) := by
        refine MemPlace.mem_row.2 ⟨0, ?_, rfl⟩
        rw [hsz]; exact Nat.mul_pos (by omega) h0
      exact hlt _ (List.mem_append.2 (.inl this))
    refine ⟨asx, ?_, ?_, ?_⟩
    · refine .cons ?_ .nil
      have hrow : ∀ (i : Nat) (r : List PV), (asx.map enc)[i]? = some r → ∃ (b : α) (y : DataW H × List MemPlace), asx[i]? = some b ∧ elems[i]? = some y ∧ r = enc b := by
        intro i r hr
        simp only [List.getElem?_map, Option.map_eq_some_iff] at hr
        obtain ⟨b, hb, rfl⟩ := hr
        have := (List.getElem?_eq_some_iff.1 hb).1
        exact ⟨b, elems[i], hb, List.getElem?_eq_getElem (by omega), rfl⟩
      have hkey : ∀ (i : Nat) (r : List PV) (j : Nat) (q : PV), (asx.map enc)[i]? = some r → r[j]? = some q → w.cell? (a.add (i * sz + j)) = some ((w.cell? (a.add (i * sz + j))).getD undef) ∧ a.block < w.heap.size ∧ PRel w (Old w) q ((w.cell? (a.add (i * sz + j))).getD undef) := by
        intro i r j q hr hq
        obtain ⟨b, y, hb, hy, rfl⟩ := hrow i r hr
        obtain ⟨⟨us, k1, k2, k3⟩, _, _⟩ := ha i b y hb hy
        obtain ⟨u, hu, hrel⟩ := k3.get j q hq
        have := k2 j u hu
        rw [Nat.zero_add] at this
        have e : (a.add (i * sz)).add j = a.add (i * sz + j) := add_add' a _ _
        rw [e] at this
        rw [this]
        exact ⟨rfl, ablk (by have := (List.getElem?_eq_some_iff.1 hy).1; omega), hrel⟩
      have hlr : (asx.map enc).length = elems.length := by simp [hal]
      rw [← hlr]
      refine PRel.rs (fun i j => (w.cell? (a.add (i * sz + j))).getD undef) (by rw [hlr]; omega) hcm h0 (by simp) ?_ ?_ ?_
      · intro r hr
        obtain ⟨b, _, rfl⟩ := List.mem_map.1 hr
        exact hlen b
      · intro i r j q hr hq
        have := hkey i r j q hr hq
        exact ⟨a, rfl, this.2.1, this.1⟩
      · intro i r j q hr hq
        exact (hkey i r j q hr hq).2.2
    · have := sum_le hB (H := H) (μ := μ) asx (elems.map (·.1)) (by simp [hal]) (fun i b d hb hd => by
        simp only [List.getElem?_map, Option.map_eq_some_iff] at hd
        obtain ⟨y, hy, rfl⟩ := hd
        exact (ha i b y hb hy).2.1)
      show sumM μ asx + 1 ≤ β H (.slice (elems.map (·.1)) (rest.map (·.1)))
      rw [hB.slice]; omega
    · intro b hb
      obtain ⟨i, hi⟩ := List.mem_iff_getElem?.1 hb
      have := (List.getElem?_eq_some_iff.1 hi).1
      exact (ha i b elems[i] hi (List.getElem?_eq_getElem (by omega))).2.2

theorem Rd.mono {α : Type} {enc : α → List PV} {μ : α → Nat} {p : α → Prop} (R : ∀ n, Rd P β n t enc μ p) {m : Nat} : Rd P β m t enc μ p := R m

/-- A struct, field by field. -/
theorem trod_fields (hB : Bulk β βl) {fs : Array Field} (ht : P.underlying t = some (.struct fs)) {H : Type} {e : TypeId × Value → H} {w : World} {sp : Nat → Bool} {hd : Bool} {fuel : Nat} {cs : List Value} {x : DataW H × List MemPlace}
    (hn : fuel ≤ n + 1) (h : DataW.trod e P w 0 sp hd fuel t cs = some x) (hlt : ∀ q ∈ x.2, q.block < w.heap.size) :
    ∃ (xs : List (DataW H × List MemPlace)) (m : Nat), m ≤ n ∧ cs.length = P.cellsOf t ∧ xs.length = fs.size ∧ βl H (xs.map (·.1)) + 1 = β H x.1 ∧
      (∀ (i : Nat) (f : Field), fs[i]? = some f → DataW.trod e P w 0 sp hd m f.type ((cs.drop f.offset).take (P.cellsOf f.type)) = xs[i]?) ∧ (∀ y ∈ xs, ∀ q ∈ y.2, q.block < w.heap.size) := by
  obtain ⟨xs, m, rfl, rfl, h1, h2, h3⟩ := DataW.trod_struct ht h
  refine ⟨xs, m, by omega, h1, h2, by rw [hB.agg], h3, fun y hy q hq => hlt q ?_⟩
  simp only [List.mem_flatMap]
  exact ⟨y, hy, hq⟩
theorem trod_items (hB : Bulk β βl) {k : Nat} {e' : TypeId} (ht : P.underlying t = some (.array k e')) {H : Type} {e : TypeId × Value → H} {w : World} {sp : Nat → Bool} {hd : Bool} {fuel : Nat} {cs : List Value} {x : DataW H × List MemPlace}
    (hn : fuel ≤ n + 1) (h : DataW.trod e P w 0 sp hd fuel t cs = some x) (hlt : ∀ q ∈ x.2, q.block < w.heap.size) :
    ∃ (xs : List (DataW H × List MemPlace)) (m : Nat), m ≤ n ∧ cs.length = P.cellsOf t ∧ xs.length = k ∧ βl H (xs.map (·.1)) + 1 = β H x.1 ∧
      (∀ (i : Nat), i < k → DataW.trod e P w 0 sp hd m e' ((cs.drop (i * P.cellsOf e')).take (P.cellsOf e')) = xs[i]?) ∧ (∀ y ∈ xs, ∀ q ∈ y.2, q.block < w.heap.size) := by
  obtain ⟨xs, m, rfl, rfl, h1, h2, h3⟩ := DataW.trod_array ht h
  refine ⟨xs, m, by omega, h1, h2, by rw [hB.agg], h3, fun y hy q hq => hlt q ?_⟩
  simp only [List.mem_flatMap]
  exact ⟨y, hy, hq⟩

theorem of_one {w : World} {S : Nat → Prop} {p : PV} {v : Value} (h : PRelL w S [p] [v]) : PRel w S p v := by cases h with | cons h t => exact h

/-! ### an argument -/
theorem Rd.arg {α : Type} {enc : α → List PV} {μ : α → Nat} {p : α → Prop} (R : ∀ n, Rd P β n t enc μ p) {H : Type} {e : TypeId × Value → H} {w : World} {sp : Nat → Bool} {hd : Bool} {v : Value} {d : DataW H} {ps : List MemPlace}
    (h : DataW.Trod e P w 0 sp hd t v d ps) (hlt : ∀ q ∈ ps, q.block < w.heap.size) : ∃ a, PRelL w (Old w) (enc a) v.cells.toList ∧ μ a ≤ β H d ∧ p a := by
  obtain ⟨fuel, hf⟩ := h
  obtain ⟨a, h1, h2, h3⟩ := R fuel (Nat.le_refl _) hf hlt
  exact ⟨a, h1, h2, h3⟩
theorem arg_one {w w0 : World} {B : BMap} {S : Nat → Prop} {H : List AObj} {p : PV} {v : Value} {r : Reach} {b : Nat} (h : PRelL w S [p] v.cells.toList) (hv : Value.okWide P w0 r b t v)
    (hk : match P.underlying t with | some (.struct _) | some (.array _ _) => False | _ => True) (h1 : v.cells = #[v]) : ARel w B S H (.pv p) v := by
  rw [h1] at h
  exact .pv (of_one h)
theorem okWide_array {k : Nat} {e : TypeId} {w : World} {r : Reach} {base : Nat} {v : Value} (ht : P.underlying t = some (.array k e)) (h : Value.okWide P w r base t v) : ∃ cs, v = .agg cs ∧ cs.size = P.cellsOf t := by
  simp only [Value.okWide, ht] at h
  obtain ⟨cs, h1, h2, _⟩ := h
  exact ⟨cs, h1, h2⟩
theorem arg_struct {w w0 : World} {B : BMap} {S : Nat → Prop} {H : List AObj} {ps : List PV} {v : Value} {r : Reach} {b : Nat} {fs : Array Field} (ht : P.underlying t = some (.struct fs)) (hv : Value.okWide P w0 r b t v)
    (h : PRelL w S ps v.cells.toList) : ARel w B S H (.ag ps) v := by
  obtain ⟨cs, rfl, _⟩ := okWide_struct ht hv
  exact h.ag
theorem arg_array {w w0 : World} {B : BMap} {S : Nat → Prop} {H : List AObj} {ps : List PV} {v : Value} {r : Reach} {b : Nat} {k : Nat} {e : TypeId} (ht : P.underlying t = some (.array k e)) (hv : Value.okWide P w0 r b t v)
    (h : PRelL w S ps v.cells.toList) : ARel w B S H (.ag ps) v := by
  obtain ⟨cs, rfl, _⟩ := okWide_array ht hv
  exact h.ag
theorem arg_slice {w w0 : World} {B : BMap} {S : Nat → Prop} {H : List AObj} {p : PV} {v : Value} {r : Reach} {b : Nat} {e : TypeId} (ht : P.underlying t = some (.slice e)) (hv : Value.okWide P w0 r b t v)
    (h : PRelL w S [p] v.cells.toList) : ARel w B S H (.pv p) v := by
  obtain ⟨a, l, c, rfl⟩ := okWide_slice ht hv
  exact .pv (of_one h)
theorem arg_int {w w0 : World} {B : BMap} {S : Nat → Prop} {H : List AObj} {p : PV} {v : Value} {r : Reach} {b : Nat} {k : IntKind} (ht : P.underlying t = some (.int k)) (hv : Value.okWide P w0 r b t v)
    (h : PRelL w S [p] v.cells.toList) : ARel w B S H (.pv p) v := by
  obtain ⟨n, rfl⟩ := okWide_int ht hv
  exact .pv (of_one h)
theorem arg_str {w w0 : World} {B : BMap} {S : Nat → Prop} {H : List AObj} {p : PV} {v : Value} {r : Reach} {b : Nat} (ht : P.underlying t = some .string) (hv : Value.okWide P w0 r b t v)
    (h : PRelL w S [p] v.cells.toList) : ARel w B S H (.pv p) v := by
  obtain ⟨n, rfl⟩ := okWide_string ht hv
  exact .pv (of_one h)
theorem arg_bool {w w0 : World} {B : BMap} {S : Nat → Prop} {H : List AObj} {p : PV} {v : Value} {r : Reach} {b : Nat} (ht : P.underlying t = some .bool) (hv : Value.okWide P w0 r b t v)
    (h : PRelL w S [p] v.cells.toList) : ARel w B S H (.pv p) v := by
  obtain ⟨n, rfl⟩ := okWide_bool ht hv
  exact .pv (of_one h)

/-! ### the row -/
theorem top_hrel (w : World) (hG : GRel w (Old w)) : HRel w (fun _ => none) (Old w) [] :=
  ⟨fun id o h => by simp at h, fun i j b c d hi => by simp at hi, fun i b c hi => by simp at hi, fun b h => h, hG⟩

/-- All of the arguments read behind the call asx they did. -/
theorem trodAll_below {H : Type} {e : TypeId × Value → H} (hl : laidOutB P = true) {W W' : World} (hb : Below W.heap.size W W') : ∀ {ts : List TypeId} {vs : List Value} {ds : List (DataW H)} {ps : List MemPlace},
    (∀ t ∈ ts, P.readableRec t = true ∧ t < P.types.size) → DataW.TrodAll e P W 0 (fun _ => true) true ts vs ds ps → (∀ x ∈ ps, x.block < W.heap.size) →
    ∀ sp : Nat → Bool, (∀ p ∈ ps, sp p.block = true) → DataW.TrodAll e P W' 0 sp true ts vs ds ps
  | [], vs, ds, ps, _, h, _, sp, _ => by
    obtain ⟨rfl, rfl, rfl⟩ := trodAll_nil h
    exact rfl
  | t :: ts, vs, ds, ps, hr, h, hlt, sp, hsp => by
    obtain ⟨v, vs', d, ds', p, q, rfl, rfl, rfl, h1, h2⟩ := trodAll_cons h
    refine ⟨p, q, ?_, trodAll_below hl hb (fun t ht => hr t (by simp [ht])) h2 (fun x hx => hlt x (by simp [hx])) sp (fun x hx => hsp x (by simp [hx])), rfl⟩
    exact WideElems.Trod_stays hl (hr t (by simp)).1 (hr t (by simp)).2 h1 (fun x hx => hb.same (hlt x (by simp [hx]))) (fun x hx => hsp x (by simp [hx]))

theorem Step.below {w w' : World} {B B' : BMap} {S S' : Nat → Prop} {H H' : List AObj} (st : Step w B S H w' B' S' H') (hS : ∀ b, b < w.heap.size → S b) : Below w.heap.size w w' :=
  ⟨st.os, st.tape, st.output, st.size, fun k hk => st.keep k (hS k hk)⟩

/-- What a law owes, out of its walk. -/
theorem law_post {f : FuncId} {fn : Func} {s : ChangeSpec} {H : Type} {e : TypeId × Value → H} {apart fresh handsOn again : Bool} {W : World} {args : Array Value} {ds gs : List (DataW H)} {before : List MemPlace} {xs : List AV} {tb : TypeId}
    (hG : GRel W (Old W)) (hl : laidOutB P = true) (hW : DataW.Whole e P fn.params.toList s.vars apart W args.toList ds gs before) (hv : s.vars = []) (hr : ∀ t ∈ fn.params.toList, P.readableRec t = true ∧ t < P.types.size)
    (hres : fn.resultTypes = #[tb]) (htb : P.underlying tb = some .bool) (hspec : (s.fn H ds).results = [.lit (.bool true)]) (hargs : (s.fn H ds).args = ds) (hvars : (s.fn H ds).vars = [])
    (hx : ARelL W (fun _ => none) (Old W) [] xs args.toList) (hrun : ARun P f xs [] (.ret (.b true) [])) :
    Calls P f args W fun en W' => ∃ v, en = .returned v ∧ s.post e P fn apart fresh handsOn again W args v W' := by
  have hW' := hW
  obtain ⟨p, q, hA, hV, rfl, hfz, hnd⟩ := hW
  rw [hv] at hV
  obtain ⟨rfl, rfl⟩ := trodVars_none hV
  simp only [List.append_nil] at hW' hfz hnd
  have := hrun.run W (fun _ => none) (Old W) args.toList (top_hrel W hG) hx
  simp only [Array.toArray_toList] at this
  refine this.mono ?_
  rintro en W' ⟨B', S', st, hr', he⟩
  have hb : Below W.heap.size W W' := st.below (fun b h => h)
  cases en with
  | returned v =>
    have hvv : v = .bool true := sc_eq he
    subst hvv
    have hlt : ∀ x ∈ p, x.block < W.heap.size := fun x hx => by simpa using hW'.lt x hx
    have hargsT := fun sp hsp => trodAll_below hl hb hr hA hlt sp hsp
    have hbool : ∀ (b : Nat) (sp : Nat → Bool) (hd : Bool), DataW.TrodAll e P W' b sp hd fn.resultTypes.toList ((Value.bool true).resultList fn.resultTypes.size) [.lit (.bool true)] [] := by
      intro b sp hd
      rw [hres]
      exact ⟨[], [], ⟨1, by simp [DataW.trod, Value.cells, htb]⟩, rfl, rfl⟩
    have hold : ∀ x ∈ p, (fun b => decide (b < W.heap.size)) x.block = true := fun x hx => by simpa using hlt x hx
    have hvs : ∀ (sp : Nat → Bool), DataW.TrodVars e P W' sp s.vars ([] : List (DataW H)) [] := by intro sp; rw [hv]; rfl
    refine ⟨_, rfl, ds, [], p, [], p, [], hW', ?_, ?_, ?_, ?_, fun _ => ⟨?_, ?_⟩⟩
    · simp only [List.append_nil, hspec]; exact hbool _ _ _
    · simp only [List.append_nil, hargs]; exact hargsT _ hold
    · simp only [List.append_nil, hvars]; exact hvs _
    · exact hb.frame _
    · intro j t r h1 h2
      rw [hres] at h1 h2
      match j, h1, h2 with
      | 0, h1, h2 =>
        simp [Value.resultList] at h1 h2
        subst h1; subst h2
        simp [Value.okWide, htb, Cell.okWide, Cell.ok]
    · refine ⟨.lit (.bool true) :: ds, [], [] ++ p ++ [], ⟨[] ++ p, [], trodAll_append (hargsT (fun _ => true) (fun _ _ => rfl)) (hbool _ _ _), hvs _, rfl, ?_, ?_⟩, ?_⟩
      · intro b off hp
        simp only [List.append_nil, List.nil_append] at hp
        have h1 := hlt _ hp
        rw [World.frozen?_of_block (w := W) (a := ⟨b, off, none⟩) (hb.block b h1)]
        exact hfz b off hp
      · intro ha; simpa using hnd ha
      · intro x hx _; simpa using hx
  | panicked c => exact he.elim
  | outgrown => exact he.elim
end
end Go.Proofs.YtimmncjdknlegaaDoor.AL
namespace Go.Proofs.YtimmncjdknlegaaDoor.AL
variable [G : GTab]
theorem Rd.le {P : Program} {β : (H : Type) → DataW H → Nat} {n m : Nat} {t : TypeId} {α : Type} {enc : α → List PV} {μ : α → Nat} {p : α → Prop} (R : Rd P β n t enc μ p) (h : m ≤ n) : Rd P β m t enc μ p :=
  fun hn hx hl => R (Nat.le_trans hn h) hx hl
theorem Rd.weak {P : Program} {β : (H : Type) → DataW H → Nat} {n : Nat} {t : TypeId} {α : Type} {enc : α → List PV} {μ μ' : α → Nat} {p p' : α → Prop} (R : Rd P β n t enc μ p) (h : ∀ a, μ' a ≤ μ a) (hp : ∀ a, p a → p' a) : Rd P β n t enc μ' p' := by
  intro H e w sp hd fuel cs x hn hx hl
  obtain ⟨a, h1, h2, h3⟩ := R hn hx hl
  exact ⟨a, h1, Nat.le_trans (h a) h2, hp a h3⟩
end Go.Proofs.YtimmncjdknlegaaDoor.AL

/- Plain laws: counts. -/
set_option linter.unusedVariables false
namespace Go.Proofs.YtimmncjdknlegaaDoor.AL

mutual
def cntE : Ex → Int → Int
  | .mk _ _ _ kids, b => cntEL kids b 0
def cntEL : List Ex → Int → Int → Int
  | [], _, n => n
  | e :: es, b, n => if n > b then n else cntEL es b (n + (1 + cntE e (b - n)))
end
theorem cntE_eq (e : Ex) (b : Int) : cntE e b = cntEL e.kids b 0 := by cases e; simp [cntE, Ex.kids]
theorem cntE_bd (e : Ex) : ∀ b, 0 ≤ cntE e b ∧ cntE e b + 1 ≤ nodes e := by
  induction e using Ex.ind with
  | h e ih =>
    intro b
    rw [cntE_eq, nodes_eq]
    have key : ∀ l : List Ex, (∀ k ∈ l, ∀ b, 0 ≤ cntE k b ∧ cntE k b + 1 ≤ nodes k) → ∀ n, n ≤ cntEL l b n ∧ cntEL l b n ≤ n + nodesL l := by
      intro l
      induction l with
      | nil => intro _ n; simp [cntEL, nodesL]
      | cons x xs ihl =>
        intro h n
        simp only [cntEL, nodesL]
        have h1 := h x (by simp) (b - n)
        split
        · omega
        · have h2 := ihl (fun k hk => h k (by simp [hk])) (n + (1 + cntE x (b - n)))
          omega
    have := key e.kids ih 0
    omega
theorem cntEL_bd (l : List Ex) (b : Int) : ∀ n, n ≤ cntEL l b n ∧ cntEL l b n ≤ n + nodesL l := by
  induction l with
  | nil => intro n; simp [cntEL, nodesL]
  | cons x xs ihl =>
    intro n
    simp only [cntEL, nodesL]
    have h1 := cntE_bd x (b - n)
    split
    · omega
    · have h2 := ihl (n + (1 + cntE x (b - n)))
      omega
/-- Count and nodes. -/
theorem cntE_nodes (e : Ex) : ∀ b : Int, 0 ≤ b → ((nodes e : Int) ≤ b + 1 → cntE e b + 1 = nodes e) ∧ (b + 1 < nodes e → b < cntE e b) := by
  induction e using Ex.ind with
  | h e ih =>
    intro b hb
    rw [cntE_eq, nodes_eq]
    have key : ∀ l : List Ex, (∀ k ∈ l, ∀ b : Int, 0 ≤ b → ((nodes k : Int) ≤ b + 1 → cntE k b + 1 = nodes k) ∧ (b + 1 < nodes k → b < cntE k b)) → ∀ n : Int,
        (n + nodesL l ≤ b → cntEL l b n = n + nodesL l) ∧ (b < n + nodesL l → b < cntEL l b n) := by
      intro l
      induction l with
      | nil => intro _ n; simp only [cntEL, nodesL]; omega
      | cons x xs ihl =>
        intro h n
        have h4 := cntE_bd x (b - n)
        simp only [cntEL, nodesL]
        split
        · omega
        · have h1 := h x (by simp) (b - n) (by omega)
          have h2 := ihl (fun k hk => h k (by simp [hk])) (n + (1 + cntE x (b - n)))
          have h3 := cntEL_bd xs b (n + (1 + cntE x (b - n)))
          constructor
          · intro hle
            have := h1.1 (by omega)
            rw [h2.1 (by omega)]; omega
          · intro hlt
            by_cases hx : (nodes x : Int) ≤ b - n + 1
            · have e1 := h1.1 hx
              exact h2.2 (by omega)
            · have := h1.2 (by omega)
              omega
    have hk := key e.kids ih 0
    constructor
    · intro h; rw [hk.1 (by omega)]; omega
    · intro h; exact hk.2 (by omega)
theorem cnt1 (e : Ex) (b : Int) (hb : 0 ≤ b) : cntEL [e] b 0 > b ↔ b < nodes e := by
  have h1 := cntE_nodes e b hb
  have h2 := cntE_bd e b
  simp only [cntEL, Int.sub_zero]
  rw [if_neg (by omega)]
  omega
theorem nodesL_mem {l : List Ex} {k : Ex} (h : k ∈ l) : nodesL k.kids + 1 ≤ nodesL l := by
  induction l with
  | nil => cases h
  | cons x xs ih =>
    simp only [nodesL]
    rcases List.mem_cons.1 h with rfl | h
    · rw [nodes_eq]; omega
    · have := ih h; omega
theorem nodes_mem {l : List Ex} {k : Ex} (h : k ∈ l) : nodes k ≤ nodesL l := by
  induction l with
  | nil => cases h
  | cons x xs ih =>
    simp only [nodesL]
    rcases List.mem_cons.1 h with rfl | h
    · omega
    · have := ih h; omega
theorem len_nodesL (l : List Ex) : l.length ≤ nodesL l := by
  induction l with
  | nil => simp
  | cons x xs ih => simp only [List.length_cons, nodesL]; rw [nodes_eq]; omega

/-! ### statements -/
def innerL (s : St) : List St := if s.kind = 2 then s.thn ++ s.els else []
mutual
def many : St → Nat
  | .mk k _ _ _ _ t e => 1 + (if k = 2 then manyL t + manyL e else 0)
def manyL : List St → Nat
  | [] => 0
  | s :: ss => many s + manyL ss
end
theorem many_eq (s : St) : many s = 1 + (if s.kind = 2 then manyL s.thn + manyL s.els else 0) := by cases s; rw [many]; rfl
theorem manyL_append (l m : List St) : manyL (l ++ m) = manyL l + manyL m := by
  induction l with
  | nil => simp [manyL]
  | cons x xs ih => simp only [List.cons_append, manyL, ih]; omega
theorem many_inner (s : St) : many s = 1 + manyL (innerL s) := by
  rw [many_eq]; unfold innerL; split
  · rw [manyL_append]
  · simp [manyL]
mutual
def cntS : St → Int → Int
  | .mk k _ _ _ _ t e, b => if k = 2 then cntSL e b (cntSL t b 0) else 0
def cntSL : List St → Int → Int → Int
  | [], _, n => n
  | s :: ss, b, n => if n > b then n else cntSL ss b (n + (1 + cntS s (b - n)))
end
theorem cntSL_big (l : List St) (b n : Int) (h : n > b) : cntSL l b n = n := by
  cases l with
  | nil => simp [cntSL]
  | cons x xs => simp [cntSL, h]
theorem cntSL_append (l m : List St) (b : Int) : ∀ n, cntSL (l ++ m) b n = cntSL m b (cntSL l b n) := by
  induction l with
  | nil => intro n; simp [cntSL]
  | cons x xs ih =>
    intro n
    simp only [List.cons_append, cntSL]
    split
    · rename_i h; rw [cntSL_big m b n h]
    · rw [ih]
theorem cntS_eq (s : St) (b : Int) : cntS s b = cntSL (innerL s) b 0 := by
  have : cntS s b = if s.kind = 2 then cntSL s.els b (cntSL s.thn b 0) else 0 := by cases s; rw [cntS]; rfl
  rw [this]; unfold innerL
  split
  · rw [cntSL_append]
  · simp [cntSL]
theorem St.indI {p : St → Prop} (h : ∀ s, (∀ k ∈ innerL s, p k) → p s) (s : St) : p s := by
  induction s using St.ind with
  | h s h1 h2 =>
    refine h s (fun k hk => ?_)
    unfold innerL at hk
    split at hk
    · rcases List.mem_append.1 hk with hk | hk
      · exact h1 k hk
      · exact h2 k hk
    · cases hk
theorem cntS_bd (s : St) : ∀ b, 0 ≤ cntS s b ∧ cntS s b + 1 ≤ many s := by
  induction s using St.indI with
  | h s ih =>
    intro b
    rw [cntS_eq, many_inner]
    have key : ∀ l : List St, (∀ k ∈ l, ∀ b, 0 ≤ cntS k b ∧ cntS k b + 1 ≤ many k) → ∀ n, n ≤ cntSL l b n ∧ cntSL l b n ≤ n + manyL l := by
      intro l
      induction l with
      | nil => intro _ n; simp [cntSL, manyL]
      | cons x xs ihl =>
        intro h n
        simp only [cntSL, manyL]
        have h1 := h x (by simp) (b - n)
        split
        · omega
        · have h2 := ihl (fun k hk => h k (by simp [hk])) (n + (1 + cntS x (b - n)))
          omega
    have := key (innerL s) ih 0
    omega
theorem cntSL_bd (l : List St) (b : Int) : ∀ n, n ≤ cntSL l b n ∧ cntSL l b n ≤ n + manyL l := by
  induction l with
  | nil => intro n; simp [cntSL, manyL]
  | cons x xs ihl =>
    intro n
    simp only [cntSL, manyL]
    have h1 := cntS_bd x (b - n)
    split
    · omega
    · have h2 := ihl (n + (1 + cntS x (b - n)))
      omega
theorem cntSL_many (l : List St) (b : Int) (hb : 0 ≤ b) : ((manyL l : Int) ≤ b → cntSL l b 0 = manyL l) ∧ (b < manyL l → b < cntSL l b 0) := by
  have keyS : ∀ s : St, ∀ b : Int, 0 ≤ b → ((many s : Int) ≤ b + 1 → cntS s b + 1 = many s) ∧ (b + 1 < many s → b < cntS s b) := by
    intro s
    induction s using St.indI with
    | h s ih =>
      intro b hb
      rw [cntS_eq, many_inner]
      have key : ∀ l : List St, (∀ k ∈ l, ∀ b : Int, 0 ≤ b → ((many k : Int) ≤ b + 1 → cntS k b + 1 = many k) ∧ (b + 1 < many k → b < cntS k b)) → ∀ n : Int,
          (n + manyL l ≤ b → cntSL l b n = n + manyL l) ∧ (b < n + manyL l → b < cntSL l b n) := by
        intro l
        induction l with
        | nil => intro _ n; simp only [cntSL, manyL]; omega
        | cons x xs ihl =>
          intro h n
          have h4 := cntS_bd x (b - n)
          simp only [cntSL, manyL]
          split
          · omega
          · have h1 := h x (by simp) (b - n) (by omega)
            have h2 := ihl (fun k hk => h k (by simp [hk])) (n + (1 + cntS x (b - n)))
            have h3 := cntSL_bd xs b (n + (1 + cntS x (b - n)))
            constructor
            · intro hle
              have := h1.1 (by omega)
              rw [h2.1 (by omega)]; omega
            · intro hlt
              by_cases hx : (many x : Int) ≤ b - n + 1
              · have e1 := h1.1 hx
                exact h2.2 (by omega)
              · have := h1.2 (by omega)
                omega
      have hk := key (innerL s) ih 0
      constructor
      · intro h; rw [hk.1 (by omega)]; omega
      · intro h; exact hk.2 (by omega)
  have key : ∀ (l : List St) (n : Int), (n + manyL l ≤ b → cntSL l b n = n + manyL l) ∧ (b < n + manyL l → b < cntSL l b n) := by
    intro l
    induction l with
    | nil => intro n; simp only [cntSL, manyL]; omega
    | cons x xs ihl =>
      intro n
      have h4 := cntS_bd x (b - n)
      simp only [cntSL, manyL]
      split
      · omega
      · have h1 := keyS x (b - n) (by omega)
        have h2 := ihl (n + (1 + cntS x (b - n)))
        have h3 := cntSL_bd xs b (n + (1 + cntS x (b - n)))
        constructor
        · intro hle
          have := h1.1 (by omega)
          rw [h2.1 (by omega)]; omega
        · intro hlt
          by_cases hx : (many x : Int) ≤ b - n + 1
          · have e1 := h1.1 hx
            exact h2.2 (by omega)
          · have := h1.2 (by omega)
            omega
  have := key l 0
  omega
theorem manyL_mem {l : List St} {k : St} (h : k ∈ l) : manyL (innerL k) + 1 ≤ manyL l := by
  induction l with
  | nil => cases h
  | cons x xs ih =>
    simp only [manyL]
    rcases List.mem_cons.1 h with rfl | h
    · rw [many_inner]; omega
    · have := ih h; omega
theorem len_manyL (l : List St) : l.length ≤ manyL l := by
  induction l with
  | nil => simp
  | cons x xs ih => simp only [List.length_cons, manyL]; rw [many_inner]; omega
end Go.Proofs.YtimmncjdknlegaaDoor.AL

/- Plain laws: units. -/
set_option linter.unusedVariables false
namespace Go.Proofs.YtimmncjdknlegaaDoor.AL

structure Un where
  p : Int
  b : Int
  t : Int
  deriving DecidableEq
abbrev cU (u : Un) : List PV := [.i u.p, .i u.b, .i u.t]

def ofK (k : Int) : Option Un :=
  if k = 0 then some ⟨0, 0, 0⟩ else if k = 1 then some ⟨1, 0, 0⟩ else if k = 2 then some ⟨0, 1, 0⟩ else if k = 3 then some ⟨0, 0, 1⟩ else if k = 4 then some ⟨0, 1, -1⟩ else none
def Un.ok (u : Un) : Prop := -4 ≤ u.p ∧ u.p ≤ 4 ∧ -4 ≤ u.b ∧ u.b ≤ 4 ∧ -4 ≤ u.t ∧ u.t ≤ 4
instance (u : Un) : Decidable u.ok := by unfold Un.ok; infer_instance
theorem ofK_ok {k : Int} {u : Un} (h : ofK k = some u) : u.ok := by
  unfold ofK at h
  unfold Un.ok
  repeat' split at h
  all_goals first
    | (simp only [Option.some.injEq] at h; subst h; simp only; omega)
    | cases h
theorem ofK_range {k : Int} : (ofK k).isSome = true ↔ 0 ≤ k ∧ k ≤ 4 := by
  unfold ofK
  repeat' split
  all_goals simp
  all_goals omega
def Un.add (a b : Un) (s : Int) : Un := ⟨a.p + s * b.p, a.b + s * b.b, a.t + s * b.t⟩
def comb (op : Int) (a b : Un) : Except Int Un :=
  if op = 6 then (if (a.add b 1).ok then .ok (a.add b 1) else .error 13)
  else if op = 7 ∨ op = 8 then (if (a.add b (-1)).ok then .ok (a.add b (-1)) else .error 13)
  else if a = b then .ok a else .error 13
def leafS (vs : List Un) (op n u : Int) : Except Int Un :=
  if op = 1 then (if 0 ≤ n ∧ n ≤ 1000000000 then (match ofK u with | some k => .ok k | none => .error 1) else .error 1)
  else if op = 2 then (if 0 ≤ n then (match vs[n.toNat]? with | some k => .ok k | none => .error 1) else .error 1)
  else if op = 3 then (if n = 0 ∨ n = 3 then .ok ⟨1, 0, 0⟩ else if n = 1 then .ok ⟨0, 0, 1⟩ else if n = 2 then .ok ⟨0, 1, 0⟩ else .error 1)
  else .error 1
def node (vs : List Un) (op n u : Int) (l : List Un) : Except Int Un :=
  match l with
  | [] => leafS vs op n u
  | [a, b] => if 4 ≤ op ∧ op ≤ 10 then comb op a b else .error 1
  | _ => .error 1
mutual
def inf (vs : List Un) : Ex → Except Int Un
  | .mk op n u kids => match infL vs kids with
    | .error x => .error x
    | .ok l => node vs op n u l
def infL (vs : List Un) : List Ex → Except Int (List Un)
  | [] => .ok []
  | e :: es => match inf vs e with
    | .error x => .error x
    | .ok a => match infL vs es with
      | .error x => .error x
      | .ok asx => .ok (a :: asx)
end
theorem inf_eq (vs : List Un) (e : Ex) : inf vs e = match infL vs e.kids with
    | .error x => .error x
    | .ok l => node vs e.op e.n e.unit l := by cases e; rw [inf]; rfl
def outU (t : Nat) : Except Int Un → List AObj → AOut
  | .ok u, H => .ret (.ag (cU u)) H
  | .error x, H => .pan (.sc (.iface t (.int .i64 x))) H
def pvRows (rows : List (List PV)) : List (List AV) := rows.map fun r => r.map AV.pv
theorem pvRows_len (rows : List (List PV)) : (pvRows rows).length = rows.length := by simp [pvRows]
theorem under_pvRows [GTab] {m t sz : Nat} (rows : List (List PV)) : (AObj.arr t sz (pvRows rows)).under m := by
  simp only [AObj.under, pvRows]
  intro r hr c hc
  obtain ⟨r', _, rfl⟩ := List.mem_map.1 hr
  exact under_pvs r' c hc
end Go.Proofs.YtimmncjdknlegaaDoor.AL
namespace Go.Proofs.YtimmncjdknlegaaDoor.AL
theorem leafS_ok {vs : List Un} (hvs : ∀ u ∈ vs, u.ok) {op n u : Int} {x : Un} (h : leafS vs op n u = .ok x) : x.ok := by
  unfold leafS at h
  split at h
  · split at h
    · split at h
      · rename_i k hk; simp only [Except.ok.injEq] at h; subst h; exact ofK_ok hk
      · cases h
    · cases h
  · split at h
    · split at h
      · split at h
        · rename_i k hk; simp only [Except.ok.injEq] at h; subst h; exact hvs _ (List.mem_of_getElem? hk)
        · cases h
      · cases h
    · split at h
      · repeat' split at h
        all_goals first
          | (simp only [Except.ok.injEq] at h; subst h; decide)
          | cases h
      · cases h
theorem comb_ok {op : Int} {a b x : Un} (ha : a.ok) (h : comb op a b = .ok x) : x.ok := by
  unfold comb at h
  repeat' split at h
  all_goals first
    | cases h; done
    | (simp only [Except.ok.injEq] at h; subst h; assumption)
theorem node_ok {vs : List Un} (hvs : ∀ u ∈ vs, u.ok) {op n u : Int} {l : List Un} (hl : ∀ v ∈ l, v.ok) {x : Un} (h : node vs op n u l = .ok x) : x.ok := by
  unfold node at h
  split at h
  · exact leafS_ok hvs h
  · split at h
    · exact comb_ok (hl _ (by simp)) h
    · cases h
  · cases h
theorem inf_ok (vs : List Un) (hvs : ∀ u ∈ vs, u.ok) (e : Ex) : ∀ u, inf vs e = .ok u → u.ok := by
  induction e using Ex.ind with
  | h e ih =>
    intro u hu
    rw [inf_eq] at hu
    have key : ∀ (l : List Ex), (∀ k ∈ l, ∀ u, inf vs k = .ok u → u.ok) → ∀ r, infL vs l = .ok r → ∀ v ∈ r, v.ok := by
      intro l
      induction l with
      | nil => intro _ r hr v hv; simp only [infL, Except.ok.injEq] at hr; subst hr; cases hv
      | cons x xs ihl =>
        intro hk r hr v hv
        simp only [infL] at hr
        split at hr
        · cases hr
        · rename_i a ha
          split at hr
          · cases hr
          · rename_i asx has
            simp only [Except.ok.injEq] at hr
            subst hr
            rcases List.mem_cons.1 hv with rfl | hv
            · exact hk x (by simp) _ ha
            · exact ihl (fun k hk' => hk k (by simp [hk'])) _ has v hv
    split at hu
    · cases hu
    · rename_i l hl
      exact node_ok hvs (key _ ih l hl) hu
end Go.Proofs.YtimmncjdknlegaaDoor.AL
namespace Go.Proofs.YtimmncjdknlegaaDoor.AL
def ksL : List Vr → Option (List Un)
  | [] => some []
  | v :: vs => match ofK v.unit with
    | none => none
    | some u => match ksL vs with
      | none => none
      | some us => some (u :: us)
theorem ksL_ok : ∀ {l : List Vr} {us : List Un}, ksL l = some us → ∀ u ∈ us, u.ok
  | [], us, h, u, hu => by simp only [ksL, Option.some.injEq] at h; subst h; cases hu
  | v :: vs, us, h, u, hu => by
    simp only [ksL] at h
    split at h
    · cases h
    · rename_i x hx
      split at h
      · cases h
      · rename_i ys hys
        simp only [Option.some.injEq] at h
        subst h
        rcases List.mem_cons.1 hu with rfl | hu
        · exact ofK_ok hx
        · exact ksL_ok hys u hu
theorem ksL_len : ∀ {l : List Vr} {us : List Un}, ksL l = some us → us.length = l.length
  | [], us, h => by simp only [ksL, Option.some.injEq] at h; subst h; rfl
  | v :: vs, us, h => by
    simp only [ksL] at h
    split at h
    · cases h
    · split at h
      · cases h
      · rename_i ys hys
        simp only [Option.some.injEq] at h
        subst h
        simp [ksL_len hys]
end Go.Proofs.YtimmncjdknlegaaDoor.AL

/- Plain laws: what 'Infer' says. -/
namespace Go.Proofs.YtimmncjdknlegaaDoor.AL
def inferS (l : List Vr) (e : Ex) : Except Int Un :=
  match ksL l with
  | none => .error 1
  | some vs => if 12 < l.length then .error 1 else if 60 < nodes e then .error 2 else inf vs e
def ansU : Except Int Un → AV
  | .ok u => .tup [.ag (cU u), .i 0]
  | .error x => .tup [.ag [.i 0, .i 0, .i 0], .i x]
end Go.Proofs.YtimmncjdknlegaaDoor.AL

/- Plain laws: statements. -/
set_option linter.unusedVariables false
namespace Go.Proofs.YtimmncjdknlegaaDoor.AL
mutual
def fine : St → Prop
  | .mk _ _ _ a b t e => nodes a ≤ 900000 ∧ nodes b ≤ 900000 ∧ fineL t ∧ fineL e
def fineL : List St → Prop
  | [] => True
  | s :: ss => fine s ∧ fineL ss
end
theorem fine_eq (s : St) : fine s = (nodes s.a ≤ 900000 ∧ nodes s.b ≤ 900000 ∧ fineL s.thn ∧ fineL s.els) := by cases s; rw [fine]; rfl
theorem fineL_app {l m : List St} (h : fineL l) (k : fineL m) : fineL (l ++ m) := by
  induction l with
  | nil => exact k
  | cons x xs ih => exact ⟨h.1, ih h.2⟩
theorem fineL_mem {l : List St} {s : St} (h : fineL l) (hm : s ∈ l) : fine s := by
  induction l with
  | nil => cases hm
  | cons x xs ih =>
    rcases List.mem_cons.1 hm with rfl | hm
    · exact h.1
    · exact ih h.2 hm
theorem fine_inner {s : St} (h : fine s) : fineL (innerL s) := by
  rw [fine_eq] at h
  unfold innerL
  split
  · exact fineL_app h.2.2.1 h.2.2.2
  · trivial

mutual
def smS : St → Bool
  | .mk k _ _ a b t e => decide (nodes a ≤ 60) && (if k = 2 then decide (nodes b ≤ 60) && (smSL t && smSL e) else true)
def smSL : List St → Bool
  | [] => true
  | s :: ss => smS s && smSL ss
end
theorem smSL_app (l m : List St) : smSL (l ++ m) = (smSL l && smSL m) := by
  induction l with
  | nil => simp [smSL]
  | cons x xs ih => simp only [List.cons_append, smSL, ih, Bool.and_assoc]
theorem smS_eq (s : St) : smS s = (decide (nodes s.a ≤ 60) && (if s.kind = 2 then decide (nodes s.b ≤ 60) else true) && smSL (innerL s)) := by
  have : smS s = (decide (nodes s.a ≤ 60) && (if s.kind = 2 then decide (nodes s.b ≤ 60) && (smSL s.thn && smSL s.els) else true)) := by cases s; rw [smS]; rfl
  rw [this]; unfold innerL
  split
  · rw [smSL_app]; simp [Bool.and_assoc]
  · simp [smSL]
end Go.Proofs.YtimmncjdknlegaaDoor.AL
namespace Go.Proofs.YtimmncjdknlegaaDoor.AL
mutual
def tot : St → Nat
  | .mk _ _ _ _ _ t e => 1 + totL t + totL e
def totL : List St → Nat
  | [] => 0
  | s :: ss => tot s + totL ss
end
theorem tot_eq (s : St) : tot s = 1 + totL s.thn + totL s.els := by cases s; rw [tot]; rfl
theorem totL_mem {l : List St} {s : St} (h : s ∈ l) : tot s ≤ totL l := by
  induction l with
  | nil => cases h
  | cons x xs ih =>
    simp only [totL]
    rcases List.mem_cons.1 h with rfl | h
    · omega
    · have := ih h; omega
theorem len_totL (l : List St) : l.length ≤ totL l := by
  induction l with
  | nil => simp
  | cons x xs ih => simp only [List.length_cons, totL]; rw [tot_eq]; omega

mutual
def stS (vs : List Un) : St → Int
  | .mk k v r a b t e =>
    if k = 1 then (if 0 ≤ v then (match vs[v.toNat]? with
      | none => 1
      | some w => match inf vs a with
        | .error x => x
        | .ok u => if u = w then 0 else 13) else 1)
    else if k = 2 then (if 1 ≤ r ∧ r ≤ 6 then (match inf vs a with
      | .error x => x
      | .ok u => match inf vs b with
        | .error x => x
        | .ok w => if u = w then (if stSL vs t = 0 then stSL vs e else stSL vs t) else 13) else 1)
    else 1
def stSL (vs : List Un) : List St → Int
  | [] => 0
  | s :: ss => if stS vs s = 0 then stSL vs ss else stS vs s
end
theorem stS_eq (vs : List Un) (s : St) : stS vs s = if s.kind = 1 then (if 0 ≤ s.var then (match vs[s.var.toNat]? with
      | none => 1
      | some w => match inf vs s.a with
        | .error x => x
        | .ok u => if u = w then 0 else 13) else 1)
    else if s.kind = 2 then (if 1 ≤ s.rel ∧ s.rel ≤ 6 then (match inf vs s.a with
      | .error x => x
      | .ok u => match inf vs s.b with
        | .error x => x
        | .ok w => if u = w then (if stSL vs s.thn = 0 then stSL vs s.els else stSL vs s.thn) else 13) else 1)
    else 1 := by cases s; rw [stS]; rfl
theorem leafS_err {vs : List Un} {op n u x : Int} (h : leafS vs op n u = .error x) : x = 1 ∨ x = 13 := by
  unfold leafS at h
  repeat' split at h
  all_goals first
    | cases h; done
    | (simp only [Except.error.injEq] at h; subst h; exact .inl rfl)
theorem comb_err {op : Int} {a b : Un} {x : Int} (h : comb op a b = .error x) : x = 1 ∨ x = 13 := by
  unfold comb at h
  repeat' split at h
  all_goals first
    | cases h; done
    | (simp only [Except.error.injEq] at h; subst h; exact .inr rfl)
theorem node_err {vs : List Un} {op n u : Int} {l : List Un} {x : Int} (h : node vs op n u l = .error x) : x = 1 ∨ x = 13 := by
  unfold node at h
  split at h
  · exact leafS_err h
  · split at h
    · exact comb_err h
    · simp only [Except.error.injEq] at h; subst h; exact .inl rfl
  · simp only [Except.error.injEq] at h; subst h; exact .inl rfl
theorem inf_err (vs : List Un) (e : Ex) : ∀ x, inf vs e = .error x → x = 1 ∨ x = 13 := by
  induction e using Ex.ind with
  | h e ih =>
    intro x hx
    rw [inf_eq] at hx
    have key : ∀ (l : List Ex), (∀ k ∈ l, ∀ x, inf vs k = .error x → x = 1 ∨ x = 13) → ∀ x, infL vs l = .error x → x = 1 ∨ x = 13 := by
      intro l
      induction l with
      | nil => intro _ x hx; simp only [infL] at hx; cases hx
      | cons y ys ihl =>
        intro hk x hx
        simp only [infL] at hx
        split at hx
        · rename_i z hz
          simp only [Except.error.injEq] at hx; subst hx
          exact hk y (by simp) _ hz
        · split at hx
          · rename_i z hz
            simp only [Except.error.injEq] at hx; subst hx
            exact ihl (fun k hk' => hk k (by simp [hk'])) _ hz
          · cases hx
    split at hx
    · rename_i z hz
      simp only [Except.error.injEq] at hx; subst hx
      exact key _ ih _ hz
    · exact node_err hx
end Go.Proofs.YtimmncjdknlegaaDoor.AL
namespace Go.Proofs.YtimmncjdknlegaaDoor.AL
def handS (vs : List Un) (l : List St) : Int := if 100 < manyL l then 2 else if smSL l = true then stSL vs l else 2
end Go.Proofs.YtimmncjdknlegaaDoor.AL
namespace Go.Proofs.YtimmncjdknlegaaDoor.AL
def evS (vs : List Un) (p : Prg) : Int × Int :=
  if handS vs p.on0 ≠ 0 then (0, handS vs p.on0) else if handS vs p.on1 ≠ 0 then (1, handS vs p.on1) else if handS vs p.on2 ≠ 0 then (2, handS vs p.on2)
  else if handS vs p.on3 ≠ 0 then (3, handS vs p.on3) else if handS vs p.on4 ≠ 0 then (4, handS vs p.on4) else (-1, 0)
def checkS (p : Prg) : Int × Int := match ksL p.vars with
  | none => (0, 1)
  | some vs => if 12 < p.vars.length then (0, 1) else evS vs p
/-- Handlers that can be counted. -/
def okP (p : Prg) : Prop :=
  (manyL p.on0 ≤ 900000 ∧ fineL p.on0) ∧ (manyL p.on1 ≤ 900000 ∧ fineL p.on1) ∧ (manyL p.on2 ≤ 900000 ∧ fineL p.on2) ∧ (manyL p.on3 ≤ 900000 ∧ fineL p.on3) ∧ (manyL p.on4 ≤ 900000 ∧ fineL p.on4)
end Go.Proofs.YtimmncjdknlegaaDoor.AL
namespace Go.Proofs.YtimmncjdknlegaaDoor.AL
def varsL : List Vr := [⟨⟨#[119]⟩, 1, 0, 0, 0⟩, ⟨⟨#[112]⟩, 4, 0, 0, 0⟩]
def isS (e : Ex) (u : Un) : Bool := match inferS varsL e with
  | .ok v => decide (v = u)
  | .error _ => false
def failsS (e : Ex) (x : Int) : Bool := match inferS varsL e with
  | .ok v => decide (0 = x) && decide (v = ⟨0, 0, 0⟩)
  | .error y => decide (y = x)
theorem inferS_err {l : List Vr} {e : Ex} {x : Int} (h : inferS l e = .error x) : x = 1 ∨ x = 2 ∨ x = 13 := by
  unfold inferS at h
  split at h
  · simp only [Except.error.injEq] at h; omega
  · split at h
    · simp only [Except.error.injEq] at h; omega
    · split at h
      · simp only [Except.error.injEq] at h; omega
      · have := inf_err _ e x h; omega
end Go.Proofs.YtimmncjdknlegaaDoor.AL

/- Weights of the language's data. -/
namespace Go.Proofs.YtimmncjdknlegaaDoor.AL
theorem nodesL_sum : ∀ l : List Ex, nodesL l = sumM nodes l
  | [] => rfl
  | e :: l => by simp only [nodesL, sumM, nodesL_sum l]
mutual
def wS : St → Nat
  | .mk _ _ _ a b t e => 1 + nodes a + nodes b + wSL t + wSL e
def wSL : List St → Nat
  | [] => 0
  | s :: ss => wS s + wSL ss
end
theorem wSL_sum : ∀ l : List St, wSL l = sumM wS l
  | [] => rfl
  | e :: l => by simp only [wSL, sumM, wSL_sum l]
theorem wS_eq (s : St) : wS s = 1 + nodes s.a + nodes s.b + wSL s.thn + wSL s.els := by cases s; rw [wS]; rfl
theorem many_le : ∀ s : St, many s ≤ wS s := by
  intro s
  induction s using St.ind with
  | h s h1 h2 =>
    have key : ∀ l : List St, (∀ k ∈ l, many k ≤ wS k) → manyL l ≤ wSL l := by
      intro l
      induction l with
      | nil => intro _; simp [manyL, wSL]
      | cons x xs ih => intro h; simp only [manyL, wSL]; have := h x (by simp); have := ih (fun k hk => h k (by simp [hk])); omega
    rw [many_eq, wS_eq]
    have := key _ h1; have := key _ h2
    split <;> omega
theorem manyL_le : ∀ l : List St, manyL l ≤ wSL l
  | [] => by simp [manyL, wSL]
  | s :: l => by simp only [manyL, wSL]; have := many_le s; have := manyL_le l; omega
theorem tot_le : ∀ s : St, tot s ≤ wS s := by
  intro s
  induction s using St.ind with
  | h s h1 h2 =>
    have key : ∀ l : List St, (∀ k ∈ l, tot k ≤ wS k) → totL l ≤ wSL l := by
      intro l
      induction l with
      | nil => intro _; simp [totL, wSL]
      | cons x xs ih => intro h; simp only [totL, wSL]; have := h x (by simp); have := ih (fun k hk => h k (by simp [hk])); omega
    rw [tot_eq, wS_eq]
    have := key _ h1; have := key _ h2
    omega
theorem totL_le : ∀ l : List St, totL l ≤ wSL l
  | [] => by simp [totL, wSL]
  | s :: l => by simp only [totL, wSL]; have := tot_le s; have := totL_le l; omega
def wV (v : Vr) : Nat := v.name.size + 5
def wP (p : Prg) : Nat := p.name.size + sumM wV p.vars + wSL p.on0 + wSL p.on1 + wSL p.on2 + wSL p.on3 + wSL p.on4 + 1
theorem len_sumM {α : Type} {μ : α → Nat} (h : ∀ a, 1 ≤ μ a) : ∀ l : List α, l.length ≤ sumM μ l
  | [] => by simp [sumM]
  | a :: l => by simp only [List.length_cons, sumM]; have := h a; have := len_sumM h l; omega
end Go.Proofs.YtimmncjdknlegaaDoor.AL

/- Plain laws: code for a stack machine: what is valid, how it runs. -/
set_option linter.unusedVariables false
namespace Go.Proofs.YtimmncjdknlegaaDoor.AL
structure Ins where
  op : Int
  n : Int
  rel : Int
  deriving DecidableEq
abbrev cI (x : Ins) : List PV := [.i x.op, .i x.n, .i x.rel]
def encI (x : Ins) : List PV := cI x
theorem encI_eq (x : Ins) : encI x = cI x := rfl
structure Cod where
  c0 : List Ins
  c1 : List Ins
  c2 : List Ins
  c3 : List Ins
  c4 : List Ins
abbrev cC (c : Cod) : List PV := [.rs 3 (c.c0.map encI), .rs 3 (c.c1.map encI), .rs 3 (c.c2.map encI), .rs 3 (c.c3.map encI), .rs 3 (c.c4.map encI)]
structure Cal where
  ev : Int
  i0 : Int
  i1 : Int
  i2 : Int
  i3 : Int
abbrev cL (c : Cal) : List PV := [.i c.ev, .i c.i0, .i c.i1, .i c.i2, .i c.i3]
abbrev rI (l : List Int) : List (List PV) := l.map fun n => [.i n]

def maxV : Int := 1000000000000
/-- An instruction is as it must be: index i, so many instructions, so many variables. -/
def insOk (x : Ins) (i len vars : Int) : Bool :=
  if x.op = 12 then decide (i < x.n ∧ x.n ≤ len ∧ 1 ≤ x.rel ∧ x.rel ≤ 6)
  else decide (x.rel = 0) && (if x.op = 1 then decide (-1000000000000 ≤ x.n ∧ x.n ≤ 1000000000000) else if x.op = 2 ∨ x.op = 11 then decide (0 ≤ x.n ∧ x.n < vars) else if x.op = 3 then decide (0 ≤ x.n ∧ x.n < 4)
    else if x.op = 13 then decide (i < x.n ∧ x.n ≤ len) else decide (x.n = 0 ∧ 4 ≤ x.op ∧ x.op ≤ 10))
def takes (op : Int) : Int := if op = 1 ∨ op = 2 ∨ op = 3 ∨ op = 13 then 0 else if op = 11 then 1 else 2
def puts (op : Int) : Int := if op = 11 ∨ op = 12 ∨ op = 13 then 0 else 1
theorem insOk_op {x : Ins} {i len vars : Int} (h : insOk x i len vars = true) : 1 ≤ x.op ∧ x.op ≤ 13 := by
  unfold insOk at h
  repeat' split at h
  all_goals simp at h
  all_goals omega

/-- A height is reached: none if it was another one. -/
def reachS (hs : List Int) (at' : Nat) (h : Int) : Option (List Int) := match hs[at']? with
  | none => none
  | some y => if y = -1 ∨ y = h then some (hs.set at' h) else none
/-- The heights behind one instruction; none if it is not valid. -/
def hStep (len vars : Int) (x : Ins) (i : Nat) (hs : List Int) : Option (List Int) := match hs[i]? with
  | none => none
  | some y => if y = -1 ∨ insOk x i len vars = false ∨ y < takes x.op then none else
    if 64 < y - takes x.op + puts x.op then none else
    if x.op = 12 then (match reachS hs x.n.toNat (y - takes x.op + puts x.op) with
      | none => none
      | some hs1 => reachS hs1 (i + 1) (y - takes x.op + puts x.op))
    else if x.op = 13 then reachS hs x.n.toNat (y - takes x.op + puts x.op)
    else reachS hs (i + 1) (y - takes x.op + puts x.op)
def hLoop (len vars : Int) : List Ins → Nat → List Int → Bool
  | [], i, hs => match hs[i]? with
    | some y => decide (y = 0)
    | none => false
  | x :: rest, i, hs => match hStep len vars x i hs with
    | none => false
    | some hs' => hLoop len vars rest (i + 1) hs'
def verH (l : List Ins) (vars : Int) : Bool := decide (l.length ≤ 4000) && hLoop l.length vars l 0 (0 :: List.replicate l.length (-1))
def verC (c : Cod) (vars : Int) : Bool := decide (0 ≤ vars ∧ vars ≤ 12) && (verH c.c0 vars && (verH c.c1 vars && (verH c.c2 vars && (verH c.c3 vars && verH c.c4 vars))))
theorem reachS_len {hs hs' : List Int} {a : Nat} {h : Int} (e : reachS hs a h = some hs') : hs'.length = hs.length := by
  unfold reachS at e
  split at e
  · cases e
  · split at e
    · simp only [Option.some.injEq] at e; subst e; simp
    · cases e
theorem hStep_len {len vars : Int} {x : Ins} {i : Nat} {hs hs' : List Int} (e : hStep len vars x i hs = some hs') : hs'.length = hs.length := by
  unfold hStep at e
  split at e
  · cases e
  · split at e
    · cases e
    · split at e
      · cases e
      · split at e
        · split at e
          · cases e
          · rename_i hs1 h1
            rw [reachS_len e, reachS_len h1]
        · split at e
          · exact reachS_len e
          · exact reachS_len e
end Go.Proofs.YtimmncjdknlegaaDoor.AL
namespace Go.Proofs.YtimmncjdknlegaaDoor.AL
def prodS (a b : Int) : Int := if a = 0 then 0 else if b < (-1000000000000 : Int).tdiv (if a < -a then -a else a) ∨ (1000000000000 : Int).tdiv (if a < -a then -a else a) < b then 1000000000001 else a * b
def downS (a b : Int) : Int := if a.tmod b ≠ 0 ∧ (decide (a < 0) != decide (b < 0)) = true then a.tdiv b - 1 else a.tdiv b
/-- A value, or the error of one. -/
def valS (n : Int) : Except Int Int := if -1000000000000 ≤ n ∧ n ≤ 1000000000000 then .ok n else .error 3
def calcS (op a b : Int) : Except Int Int :=
  if op = 4 then valS (a + b) else if op = 5 then valS (a - b) else if op = 6 then valS (prodS a b) else if op = 9 then valS (if b < a then b else a) else if op = 10 then valS (if a < b then b else a)
  else if b = 0 then .error 14 else if op = 8 then valS (-downS (-a) b) else valS (downS a b)
def holdsS (a rel b : Int) : Bool := if rel = 1 then decide (a < b) else if rel = 2 then decide (a ≤ b) else if rel = 3 then decide (b < a) else if rel = 4 then decide (b ≤ a) else if rel = 5 then a == b else a != b
abbrev isV (n : Int) : Prop := -1000000000000 ≤ n ∧ n ≤ 1000000000000
theorem tdiv_bd {a b : Int} (h : isV a) (hb : b ≠ 0) : isV (a.tdiv b) := by
  have h1 : (a.tdiv b).natAbs ≤ a.natAbs := by rw [Int.natAbs_tdiv]; exact Nat.div_le_self _ _
  omega
theorem downS_bd {a b : Int} (h : isV a) (hb : b ≠ 0) : -1000000000001 ≤ downS a b ∧ downS a b ≤ 1000000000000 := by
  have := tdiv_bd h hb
  unfold downS
  split <;> omega
end Go.Proofs.YtimmncjdknlegaaDoor.AL
namespace Go.Proofs.YtimmncjdknlegaaDoor.AL
theorem prod_fits {a b m : Int} (hm : (if a < -a then -a else a) = m) (hp : 0 < m) (h1 : (-1000000000000 : Int).tdiv m ≤ b) (h2 : b ≤ (1000000000000 : Int).tdiv m) : -1000000000000 ≤ a * b ∧ a * b ≤ 1000000000000 := by
  have hma : m = a ∨ m = -a := by rw [← hm]; split <;> omega
  have e0 : (1000000000000 : Int).tdiv m = 1000000000000 / m := Int.tdiv_eq_ediv_of_nonneg (by omega)
  have e1 : (1000000000000 : Int) / m * m ≤ 1000000000000 := Int.ediv_mul_le _ (by omega)
  have e2 : (-1000000000000 : Int).tdiv m = -((1000000000000 : Int).tdiv m) := Int.neg_tdiv _ _
  rw [e2, e0] at h1
  rw [e0] at h2
  generalize (1000000000000 : Int) / m = q at *
  have h3 := Int.mul_le_mul_of_nonneg_right h2 (show 0 ≤ m by omega)
  have h4 := Int.mul_le_mul_of_nonneg_right h1 (show 0 ≤ m by omega)
  rw [Int.neg_mul] at h4
  rcases hma with h | h
  · rw [h, Int.mul_comm b a] at h3 h4
    rw [h] at e1
    omega
  · rw [h] at h3 h4 e1
    simp only [Int.mul_neg, Int.neg_neg] at h3 h4 e1
    rw [Int.mul_comm b a] at h3 h4
    omega
end Go.Proofs.YtimmncjdknlegaaDoor.AL
namespace Go.Proofs.YtimmncjdknlegaaDoor.AL
theorem prodS_out {a b m : Int} (h0 : ¬ a = 0) (hm : (if a < -a then -a else a) = m) (h : b < (-1000000000000 : Int).tdiv m ∨ (1000000000000 : Int).tdiv m < b) : prodS a b = 1000000000001 := by
  unfold prodS; rw [if_neg h0, hm, if_pos h]
theorem prodS_in {a b m : Int} (h0 : ¬ a = 0) (hm : (if a < -a then -a else a) = m) (h : ¬ (b < (-1000000000000 : Int).tdiv m ∨ (1000000000000 : Int).tdiv m < b)) : prodS a b = a * b := by
  unfold prodS; rw [if_neg h0, hm, if_neg h]
end Go.Proofs.YtimmncjdknlegaaDoor.AL
namespace Go.Proofs.YtimmncjdknlegaaDoor.AL
theorem valS_ok {n v : Int} (h : valS n = .ok v) : isV n ∧ v = n := by
  unfold valS at h; split at h
  · cases h; exact ⟨by assumption, rfl⟩
  · cases h
theorem valS_err {n e : Int} (h : valS n = .error e) : ¬ isV n ∧ e = 3 := by
  unfold valS at h; split at h
  · cases h
  · cases h; exact ⟨by assumption, rfl⟩
theorem calcS_isV {op a b v : Int} (h : calcS op a b = .ok v) : isV v := by
  unfold calcS at h
  repeat' split at h
  all_goals first | (cases h; done) | (obtain ⟨hv, rfl⟩ := valS_ok h; exact hv)
end Go.Proofs.YtimmncjdknlegaaDoor.AL

/- The stack machine's object in memory. -/
set_option linter.unusedVariables false
set_option linter.unusedSectionVars false
namespace Go.Proofs.YtimmncjdknlegaaDoor.AL
/-- A machine: variables, the state's row, inputs, stack, height, place, steps. -/
def mc (vs : List Vr) (is n : Nat) (i0 i1 i2 i3 : Int) (stk : List Int) (h at' st : Int) : List AV :=
  .rs 5 (vs.map encV) :: .os is 0 n n :: .i i0 :: .i i1 :: .i i2 :: .i i3 :: (stk.map AV.i ++ [.i h, .i at', .i st])
section
variable {vs : List Vr} {is n : Nat} {i0 i1 i2 i3 : Int} {stk : List Int} {h at' st : Int}
theorem mc_len (hs : stk.length = 64) : (mc vs is n i0 i1 i2 i3 stk h at' st).length = 73 := by simp [mc, hs]
theorem mc_vars : (mc vs is n i0 i1 i2 i3 stk h at' st)[0]? = some (.rs 5 (vs.map encV)) := rfl
theorem mc_state : (mc vs is n i0 i1 i2 i3 stk h at' st)[1]? = some (.os is 0 n n) := rfl
theorem mc_in {k : Nat} (hk : k < 4) : (mc vs is n i0 i1 i2 i3 stk h at' st)[2 + k]? = some (.i (if k = 0 then i0 else if k = 1 then i1 else if k = 2 then i2 else i3)) := by
  have : k = 0 ∨ k = 1 ∨ k = 2 ∨ k = 3 := by omega
  rcases this with rfl | rfl | rfl | rfl <;> rfl
theorem mc_stk {k : Nat} {v : Int} (hk : stk[k]? = some v) : (mc vs is n i0 i1 i2 i3 stk h at' st)[6 + k]? = some (.i v) := by
  have hl := (List.getElem?_eq_some_iff.1 hk).1
  rw [Nat.add_comm]
  simp only [mc, List.getElem?_cons_succ]
  rw [List.getElem?_append_left (by simpa using hl), List.getElem?_map, hk]; rfl
theorem mc_h (hs : stk.length = 64) : (mc vs is n i0 i1 i2 i3 stk h at' st)[70]? = some (.i h) := by
  simp only [mc, List.getElem?_cons_succ]
  rw [List.getElem?_append_right (by simp [hs])]; simp [hs]
theorem mc_at (hs : stk.length = 64) : (mc vs is n i0 i1 i2 i3 stk h at' st)[71]? = some (.i at') := by
  simp only [mc, List.getElem?_cons_succ]
  rw [List.getElem?_append_right (by simp [hs])]; simp [hs]
theorem mc_st (hs : stk.length = 64) : (mc vs is n i0 i1 i2 i3 stk h at' st)[72]? = some (.i st) := by
  simp only [mc, List.getElem?_cons_succ]
  rw [List.getElem?_append_right (by simp [hs])]; simp [hs]
theorem splice_set {k : Nat} {l : List AV} {x : AV} (hk : k < l.length) : aSplice k [x] l = l.set k x := by
  unfold aSplice
  rw [List.set_eq_take_append_cons_drop, if_pos hk]
  simp
theorem take_drop_set {k : Nat} {l : List AV} {x : AV} (hk : k < l.length) : l.take k ++ (x :: l.drop (k + 1)) = l.set k x := by
  rw [List.set_eq_take_append_cons_drop, if_pos hk]
theorem mc_push {k : Nat} {x : Int} (hs : stk.length = 64) (hk : k < 64) : List.take (6 + k) (mc vs is n i0 i1 i2 i3 stk h at' st) ++ (.pv (.sc (.int .i64 x)) :: List.drop (6 + (k + 1)) (mc vs is n i0 i1 i2 i3 stk h at' st)) = mc vs is n i0 i1 i2 i3 (stk.set k x) h at' st := by
  rw [show 6 + (k + 1) = (6 + k) + 1 by omega, take_drop_set (by rw [mc_len hs]; omega), Nat.add_comm]
  simp only [mc, List.set_cons_succ]
  rw [List.set_append_left (h := by simpa [hs] using hk), List.map_set]
theorem mc_seth {x : Int} (hs : stk.length = 64) : List.take 70 (mc vs is n i0 i1 i2 i3 stk h at' st) ++ (.pv (.sc (.int .i64 x)) :: List.drop 71 (mc vs is n i0 i1 i2 i3 stk h at' st)) = mc vs is n i0 i1 i2 i3 stk x at' st := by
  rw [take_drop_set (by rw [mc_len hs]; omega)]
  simp only [mc, List.set_cons_succ]
  rw [List.set_append_right (h := by simp [hs])]; simp [hs]
theorem mc_setat {x : Int} (hs : stk.length = 64) : List.take 71 (mc vs is n i0 i1 i2 i3 stk h at' st) ++ (.pv (.sc (.int .i64 x)) :: List.drop 72 (mc vs is n i0 i1 i2 i3 stk h at' st)) = mc vs is n i0 i1 i2 i3 stk h x st := by
  rw [take_drop_set (by rw [mc_len hs]; omega)]
  simp only [mc, List.set_cons_succ]
  rw [List.set_append_right (h := by simp [hs])]; simp [hs]
theorem mc_setst {x : Int} (hs : stk.length = 64) : List.take 72 (mc vs is n i0 i1 i2 i3 stk h at' st) ++ (.pv (.sc (.int .i64 x)) :: List.drop 73 (mc vs is n i0 i1 i2 i3 stk h at' st)) = mc vs is n i0 i1 i2 i3 stk h at' x := by
  rw [take_drop_set (by rw [mc_len hs]; omega)]
  simp only [mc, List.set_cons_succ]
  rw [List.set_append_right (h := by simp [hs])]; simp [hs]
theorem mc_under {m t : Nat} (hi : is < m) : (AObj.cells t (mc vs is n i0 i1 i2 i3 stk h at' st)).under m := by
  intro c hc
  simp only [mc, List.mem_cons, List.mem_append, List.mem_map, List.not_mem_nil, or_false] at hc
  rcases hc with rfl | rfl | rfl | rfl | rfl | rfl | ⟨_, _, rfl⟩ | rfl | rfl | rfl <;> simp [AV.under, hi]
end
end Go.Proofs.YtimmncjdknlegaaDoor.AL
namespace Go.Proofs.YtimmncjdknlegaaDoor.AL
theorem row_set {now : List Int} {j : Nat} {x : Int} : (now.map fun v => [AV.i v]).set j [.pv (.sc (.int .i64 x))] = (now.set j x).map fun v => [AV.i v] := by rw [List.map_set]
theorem row_under {t sz m : Nat} {now : List Int} : (AObj.arr t sz (now.map fun v => [AV.i v])).under m := by
  simp [AObj.under, AV.under]
end Go.Proofs.YtimmncjdknlegaaDoor.AL
namespace Go.Proofs.YtimmncjdknlegaaDoor.AL
theorem mc_stkE {stk : List Int} {k : Nat} {v : Int} (hk : stk[k]? = some v) (vs : List Vr) (is n : Nat) (i0 i1 i2 i3 h at' st : Int) : (mc vs is n i0 i1 i2 i3 stk h at' st)[6 + k]? = some (.i v) := mc_stk hk
theorem mc_pushE {stk : List Int} {k : Nat} (hs : stk.length = 64) (hk : k < 64) (vs : List Vr) (is n : Nat) (i0 i1 i2 i3 h at' st x : Int) :
    List.take (6 + k) (mc vs is n i0 i1 i2 i3 stk h at' st) ++ (.pv (.sc (.int .i64 x)) :: List.drop (6 + (k + 1)) (mc vs is n i0 i1 i2 i3 stk h at' st)) = mc vs is n i0 i1 i2 i3 (stk.set k x) h at' st := mc_push hs hk
end Go.Proofs.YtimmncjdknlegaaDoor.AL

set_option maxHeartbeats 8000000
set_option maxRecDepth 20000
set_option linter.unusedVariables false
set_option linter.unusedSimpArgs false
namespace Go.Proofs.YtimmncjdknlegaaDoor.Y
open Go.Proofs.YtimmncjdknlegaaDoor.AL Go.Proofs Go
attribute [local irreducible] AWP AWL AWG AWR AWE AWX AWO AWSeq AWSG AWSR AWSO AWSE AWSF GoodP OGW OGR OGE OGX PGW PGR PGE Wk AWLoop AWPD AWLD
theorem dr39_2_X10a : Drawn Tryd.prog 2 (regOps 2 ((Tryd.f39.body).getD .skip)) [] [] [.win [0], .win [0], .win [0], .win [0], .win [0], .win [0], .win [0], .win [0], .win [0], .win [0]] 0 [] := ⟨rfl, by as_aux_lemma => kernel_rfl⟩
theorem dr37_3_X10a : Drawn Tryd.prog 3 (regOps 3 ((Tryd.f37.body).getD .skip)) [9] [] [.win [0], .win [0], .win [0], .win [0], .win [0], .win [0], .win [0], .win [0], .win [0], .eff 0] 1 [] := ⟨rfl, by as_aux_lemma => kernel_rfl⟩

theorem inside_run (n lo hi : Int) (H0 : List AObj) : ARun Tryd.prog 35 [.i n, .i lo, .i hi] H0 (.ret (.b (decide (lo ≤ n) && decide (n ≤ hi))) H0) := by
  by_cases h1 : lo ≤ n
  · (refine ARun.intro Tryd.func35 rfl Tryd.call35 Tryd.ntmps35 Tryd.results35 ?_; simp only [List.length_cons, List.length_nil, List.length_map, Nat.reduceAdd, Nat.reduceSub, List.replicate_succ, List.replicate_zero, List.cons_append, List.nil_append])
    (have ww1 := h1; refine wk ?_; clear ww1; (repeat' first | exact True.intro | refine Lf.mk ?_ ?_); all_goals intro hP)
    (refine resX ?_; try exact True.intro)
    simp [h1]
  · (refine ARun.intro Tryd.func35 rfl Tryd.call35 Tryd.ntmps35 Tryd.results35 ?_; simp only [List.length_cons, List.length_nil, List.length_map, Nat.reduceAdd, Nat.reduceSub, List.replicate_succ, List.replicate_zero, List.cons_append, List.nil_append])
    (have ww1 := h1; refine wk ?_; clear ww1; (repeat' first | exact True.intro | refine Lf.mk ?_ ?_); all_goals intro hP)
    (refine resX ?_; try exact True.intro)
    simp [h1]
/-- 'in', at one number. -/
theorem in_run (lo hi n : Int) (H0 : List AObj) : ARun Tryd.prog 28 [.i lo, .i hi, .rs 1 [[.i n]]] H0 (.ret (.b (decide (lo ≤ n) && decide (n ≤ hi))) H0) := by
  by_cases h1 : n < lo
  · have h1' : ¬ lo ≤ n := by omega
    (refine ARun.intro Tryd.func28 rfl Tryd.call28 Tryd.ntmps28 Tryd.results28 ?_; simp only [List.length_cons, List.length_nil, List.length_map, Nat.reduceAdd, Nat.reduceSub, List.replicate_succ, List.replicate_zero, List.cons_append, List.nil_append])
    (refine wk ?_; (repeat' first | exact True.intro | refine Lf.mk ?_ ?_); all_goals intro hP)
    refine awp_loop 2 ?_
    (have ww1 := h1; refine wk ?_; clear ww1; (repeat' first | exact True.intro | refine Lf.mk ?_ ?_); all_goals intro hP)
    (refine resX ?_; try exact True.intro)
    simp [h1']
  · have h1' : lo ≤ n := by omega
    by_cases h2 : hi < n
    · have h2' : ¬ n ≤ hi := by omega
      (refine ARun.intro Tryd.func28 rfl Tryd.call28 Tryd.ntmps28 Tryd.results28 ?_; simp only [List.length_cons, List.length_nil, List.length_map, Nat.reduceAdd, Nat.reduceSub, List.replicate_succ, List.replicate_zero, List.cons_append, List.nil_append])
      (refine wk ?_; (repeat' first | exact True.intro | refine Lf.mk ?_ ?_); all_goals intro hP)
      refine awp_loop 2 ?_
      (have ww1 := h1; have ww2 := h2; refine wk ?_; clear ww1 ww2; (repeat' first | exact True.intro | refine Lf.mk ?_ ?_); all_goals intro hP)
      (refine resX ?_; try exact True.intro)
      simp [h2']
    · have h2' : n ≤ hi := by omega
      (refine ARun.intro Tryd.func28 rfl Tryd.call28 Tryd.ntmps28 Tryd.results28 ?_; simp only [List.length_cons, List.length_nil, List.length_map, Nat.reduceAdd, Nat.reduceSub, List.replicate_succ, List.replicate_zero, List.cons_append, List.nil_append])
      (refine wk ?_; (repeat' first | exact True.intro | refine Lf.mk ?_ ?_); all_goals intro hP)
      refine awp_loop 2 ?_
      (have ww1 := h1; have ww2 := h2; refine wk ?_; clear ww1 ww2; (repeat' first | exact True.intro | refine Lf.mk ?_ ?_); all_goals intro hP)
      (refine resX ?_; try exact True.intro)
      simp [h1', h2']

section
variable (vs : List Vr) (is n : Nat) (i0 i1 i2 i3 : Int) (stk : List Int) (hs : stk.length = 64) (at' st : Int) (id : Nat)
include hs
theorem pop_run (k : Nat) (v : Int) (hk : stk[k]? = some v) (H0 : List AObj) (hid : H0[id]? = some (.cells 54 (mc vs is n i0 i1 i2 i3 stk (k + 1 : Nat) at' st))) (hb0' : is < H0.length) :
    ARun Tryd.prog 39 [.p id 0] H0 (.ret (.i v) (H0.set id (.cells 54 (mc vs is n i0 i1 i2 i3 stk k at' st)))) := by
  have hk64 : k < 64 := by have := (List.getElem?_eq_some_iff.1 hk).1; omega
  have w1 : IntKind.i64.wrap (((k + 1 : Nat) : Int) - 1) = k := by rw [wrap_of (by omega) (by omega)]; omega
  have l1 : 6 + (k + 1) ≤ 73 := by omega
  have l2 : (k : Int) < 64 := by omega
  (refine ARun.intro Tryd.func39 rfl Tryd.call39 Tryd.ntmps39 Tryd.results39 ?_; simp only [List.length_cons, List.length_nil, List.length_map, Nat.reduceAdd, Nat.reduceSub, List.replicate_succ, List.replicate_zero, List.cons_append, List.nil_append])
  (have rr1 := dr39_2_X10a; have ww1 := hid; have ww2 := getOut hid; have ww3 := setOut hid; have ww4 := getSet hid; have ww5 := @mc_len; have ww6 := hs; have ww7 := @mc_h; have ww8 := @mc_seth; have ww9 := mc_stkE hk; have ww10 := w1; have ww11 := l1; have ww12 := l2; refine wk ?_; clear rr1 ww1 ww2 ww3 ww4 ww5 ww6 ww7 ww8 ww9 ww10 ww11 ww12; (repeat' first | exact True.intro | refine Lf.mk ?_ ?_); all_goals intro hP)
  ((try simp only [go_sem, Nat.reduceAdd, Nat.reduceSub, Nat.reduceMul, Nat.reduceLeDiff, Nat.reduceLT, Nat.reduceEqDiff, Int.reduceToNat, Int.reduceAdd, Int.reduceMul, Int.reduceSub, Int.reduceLT, Int.reduceLE, Int.reduceEq, Int.reduceNeg, Int.reduceBEq, Int.reduceBNe, ↓reduceIte, reduceCtorEq]); (first | refine ⟨_, rfl, _, rfl, Fin.set0 1 ?_ ?_⟩ | refine ⟨_, rfl, _, rfl, Fin.set 1 ?_ ?_⟩))
  · exact mc_under hb0'
  · simp only [AV.low]
theorem push_run (k : Nat) (x : Int) (hk : k < 64) (H0 : List AObj) (hid : H0[id]? = some (.cells 54 (mc vs is n i0 i1 i2 i3 stk k at' st))) (hb0' : is < H0.length) (hx : -1000000000000 ≤ x ∧ x ≤ 1000000000000) :
    ARun Tryd.prog 37 [.p id 0, .i x] H0 (.ret (.i 0) (H0.set id (.cells 54 (mc vs is n i0 i1 i2 i3 (stk.set k x) (k + 1 : Nat) at' st)))) := by
  have w1 : IntKind.i64.wrap ((k : Int) + 1) = ((k + 1 : Nat) : Int) := by rw [wrap_of (by omega) (by omega)]; omega
  have l1 : 6 + (k + 1) ≤ 73 := by omega
  have l2 : (k : Int) < 64 := by omega
  have hs' : (stk.set k x).length = 64 := by simp [hs]
  have hin := fun H0 => in_run (-1000000000000) 1000000000000 x H0
  simp only [hx.1, hx.2, decide_true, Bool.and_self] at hin
  (refine ARun.intro Tryd.func37 rfl Tryd.call37 Tryd.ntmps37 Tryd.results37 ?_; simp only [List.length_cons, List.length_nil, List.length_map, Nat.reduceAdd, Nat.reduceSub, List.replicate_succ, List.replicate_zero, List.cons_append, List.nil_append])
  (have rr1 := dr37_3_X10a; have ww1 := hid; have ww2 := getOut hid; have ww3 := setOut hid; have ww4 := getSet hid; have ww5 := getSetL hid; have ww6 := setSetL hid; have ww7 := @mc_len; have ww8 := hs; have ww9 := hs'; have ww10 := @mc_h; have ww11 := @mc_seth; have ww12 := mc_pushE hs hk; have ww13 := w1; have ww14 := l1; have ww15 := l2; have dd1 := hin []; refine wk ?_; clear rr1 ww1 ww2 ww3 ww4 ww5 ww6 ww7 ww8 ww9 ww10 ww11 ww12 ww13 ww14 ww15 dd1; (repeat' first | exact True.intro | refine Lf.mk ?_ ?_); all_goals intro hP)
  ((try simp only [go_sem, Nat.reduceAdd, Nat.reduceSub, Nat.reduceMul, Nat.reduceLeDiff, Nat.reduceLT, Nat.reduceEqDiff, Int.reduceToNat, Int.reduceAdd, Int.reduceMul, Int.reduceSub, Int.reduceLT, Int.reduceLE, Int.reduceEq, Int.reduceNeg, Int.reduceBEq, Int.reduceBNe, ↓reduceIte, reduceCtorEq]); (first | refine ⟨_, rfl, _, rfl, Fin.set0 1 ?_ ?_⟩ | refine ⟨_, rfl, _, rfl, Fin.set 1 ?_ ?_⟩))
  · exact mc_under hb0'
  · simp only [AV.low]
omit hs in
theorem push_bad (x : Int) (H0 : List AObj) (hx : ¬ (-1000000000000 ≤ x ∧ x ≤ 1000000000000)) :
    ARun Tryd.prog 37 [.p id 0, .i x] H0 (.ret (.i 3) H0) := by
  have hin := fun H0 => in_run (-1000000000000) 1000000000000 x H0
  have : (decide ((-1000000000000 : Int) ≤ x) && decide (x ≤ 1000000000000)) = false := by simp; omega
  simp only [this] at hin
  (refine ARun.intro Tryd.func37 rfl Tryd.call37 Tryd.ntmps37 Tryd.results37 ?_; simp only [List.length_cons, List.length_nil, List.length_map, Nat.reduceAdd, Nat.reduceSub, List.replicate_succ, List.replicate_zero, List.cons_append, List.nil_append])
  (have rr1 := dr37_3_X10a; have dd1 := hin []; refine wk ?_; clear rr1 dd1; (repeat' first | exact True.intro | refine Lf.mk ?_ ?_); all_goals intro hP)
  (refine resX ?_; try exact True.intro)
end
end Go.Proofs.YtimmncjdknlegaaDoor.Y

/- Plain laws: how code runs; the heights of its stack. -/
set_option linter.unusedVariables false
namespace Go.Proofs.YtimmncjdknlegaaDoor.AL
structure Cf where
  now : List Int
  stk : List Int
  at' : Nat
abbrev inS (i0 i1 i2 i3 : Int) (j : Nat) : Int := if j = 0 then i0 else if j = 1 then i1 else if j = 2 then i2 else i3
section
variable (vs : List Vr) (i0 i1 i2 i3 : Int)
def stepS (x : Ins) (c : Cf) : Except Int Cf :=
  if x.op = 1 then .ok ⟨c.now, c.stk ++ [x.n], c.at' + 1⟩
  else if x.op = 2 then .ok ⟨c.now, c.stk ++ [c.now.getD x.n.toNat 0], c.at' + 1⟩
  else if x.op = 3 then .ok ⟨c.now, c.stk ++ [inS i0 i1 i2 i3 x.n.toNat], c.at' + 1⟩
  else if x.op = 11 then (match vs[x.n.toNat]? with
    | none => .error 1
    | some vr => if vr.low ≤ c.stk.getD (c.stk.length - 1) 0 ∧ c.stk.getD (c.stk.length - 1) 0 ≤ vr.high then .ok ⟨c.now.set x.n.toNat (c.stk.getD (c.stk.length - 1) 0), c.stk.take (c.stk.length - 1), c.at' + 1⟩ else .error 15)
  else if x.op = 12 then .ok ⟨c.now, c.stk.take (c.stk.length - 2), if holdsS (c.stk.getD (c.stk.length - 2) 0) x.rel (c.stk.getD (c.stk.length - 1) 0) = true then c.at' + 1 else x.n.toNat⟩
  else if x.op = 13 then .ok ⟨c.now, c.stk, x.n.toNat⟩
  else match calcS x.op (c.stk.getD (c.stk.length - 2) 0) (c.stk.getD (c.stk.length - 1) 0) with
    | .ok v => .ok ⟨c.now, c.stk.take (c.stk.length - 2) ++ [v], c.at' + 1⟩
    | .error e => .error e
/-- How a handler runs, so many steps at most. -/
def traceS (l : List Ins) : Nat → Cf → Nat → Except Int (List Int) × Nat
  | 0, c, n => (.ok c.now, n)
  | f + 1, c, n => match l[c.at']? with
    | none => (.ok c.now, n)
    | some x => match stepS vs i0 i1 i2 i3 x c with
      | .error e => (.error e, n + 1)
      | .ok c' => traceS l f c' (n + 1)
end
/-- A configuration as it must be. -/
structure CfOk (vs : List Vr) (c : Cf) : Prop where
  now : c.now.length = vs.length
  nowV : ∀ v ∈ c.now, isV v
  stkV : ∀ v ∈ c.stk, isV v
/-- An instruction that finds what it needs. -/
structure At (vs : List Vr) (len : Int) (x : Ins) (c : Cf) : Prop where
  ok : insOk x c.at' len vs.length = true
  tk : takes x.op ≤ c.stk.length
  pt : (c.stk.length : Int) - takes x.op + puts x.op ≤ 64

theorem getD_mem {l : List Int} {k : Nat} (h : k < l.length) : l.getD k 0 ∈ l := by
  rw [List.getD_eq_getElem?_getD, List.getElem?_eq_getElem h]; simp
theorem calcS_err {op a b e : Int} (h : calcS op a b = .error e) : e = 3 ∨ e = 14 := by
  unfold calcS at h
  repeat' split at h
  all_goals first | (obtain ⟨_, rfl⟩ := valS_err h; exact .inl rfl) | (cases h; exact .inr rfl)

section
variable {vs : List Vr} {i0 i1 i2 i3 : Int} {x : Ins} {c c' : Cf} {len : Int}
theorem stepS_err {e : Int} (h : stepS vs i0 i1 i2 i3 x c = .error e) (ha : At vs len x c) : e = 3 ∨ e = 14 ∨ e = 15 := by
  unfold stepS at h
  repeat' split at h
  all_goals first | (cases h; done) | skip
  all_goals first | (cases h; exact .inr (.inr rfl)) | skip
  · rename_i h1 h2 h3 h4 o hn
    have := ha.ok
    unfold insOk at this
    rw [h4] at this
    simp at this
    rw [List.getElem?_eq_none_iff] at hn
    omega
  · rename_i hc
    cases h
    rcases calcS_err hc with h | h
    · exact .inl h
    · exact .inr (.inl h)
theorem stepS_ok (h : stepS vs i0 i1 i2 i3 x c = .ok c') (hc : CfOk vs c) (ha : At vs len x c) (hi : ∀ j, isV (inS i0 i1 i2 i3 j)) :
    CfOk vs c' ∧ (c'.stk.length : Int) = c.stk.length - takes x.op + puts x.op ∧ (c'.at' = c.at' + 1 ∧ x.op ≠ 13 ∨ c'.at' = x.n.toNat ∧ (x.op = 12 ∨ x.op = 13)) ∧ c.at' < c'.at' ∧ (c'.at' : Int) ≤ max len (c.at' + 1) := by
  have hok := ha.ok
  have htk := ha.tk
  have hop := insOk_op hok
  unfold insOk at hok
  unfold stepS at h
  by_cases h1 : x.op = 1
  · rw [if_pos h1] at h; cases h
    simp only [h1] at hok htk ⊢
    simp at hok
    refine ⟨⟨hc.now, hc.nowV, fun v hv => ?_⟩, by simp [takes, puts], by simp, by simp, by simp; omega⟩
    simp at hv; rcases hv with hv | rfl
    · exact hc.stkV v hv
    · exact ⟨hok.2.1, hok.2.2⟩
  rw [if_neg h1] at h
  by_cases h2 : x.op = 2
  · rw [if_pos h2] at h; cases h
    simp only [h2] at hok htk ⊢
    simp at hok
    have hl : x.n.toNat < c.now.length := by rw [hc.now]; omega
    refine ⟨⟨hc.now, hc.nowV, fun v hv => ?_⟩, by simp [takes, puts], by simp, by simp, by simp; omega⟩
    simp only [List.mem_append, List.mem_singleton] at hv; rcases hv with hv | rfl
    · exact hc.stkV v hv
    · exact hc.nowV _ (getD_mem hl)
  rw [if_neg h2] at h
  by_cases h3 : x.op = 3
  · rw [if_pos h3] at h; cases h
    simp only [h3] at hok htk ⊢
    refine ⟨⟨hc.now, hc.nowV, fun v hv => ?_⟩, by simp [takes, puts], by simp, by simp, by simp; omega⟩
    simp only [List.mem_append, List.mem_singleton] at hv; rcases hv with hv | rfl
    · exact hc.stkV v hv
    · exact hi _
  rw [if_neg h3] at h
  by_cases h11 : x.op = 11
  · rw [if_pos h11] at h
    simp only [h11] at hok htk ⊢
    simp [takes] at htk
    have hm := hc.stkV _ (getD_mem (l := c.stk) (k := c.stk.length - 1) (by omega))
    split at h
    · cases h
    · split at h
      · cases h
        refine ⟨⟨by simp [hc.now], fun v hv => ?_, fun v hv => hc.stkV v (List.mem_of_mem_take hv)⟩, by simp [takes, puts]; omega, by simp, by simp, by simp; omega⟩
        rcases List.mem_or_eq_of_mem_set hv with hv | rfl
        · exact hc.nowV v hv
        · exact hm
      · cases h
  rw [if_neg h11] at h
  by_cases h12 : x.op = 12
  · rw [if_pos h12] at h; cases h
    simp only [h12] at hok htk ⊢
    simp at hok
    simp [takes] at htk
    refine ⟨⟨hc.now, hc.nowV, fun v hv => hc.stkV v (List.mem_of_mem_take hv)⟩, by simp [takes, puts]; omega, ?_, ?_, ?_⟩
    all_goals (split <;> simp <;> omega)
  rw [if_neg h12] at h
  by_cases h13 : x.op = 13
  · rw [if_pos h13] at h; cases h
    simp only [h13] at hok htk ⊢
    simp at hok
    refine ⟨⟨hc.now, hc.nowV, hc.stkV⟩, by simp [takes, puts], by simp, by simp; omega, by simp; omega⟩
  rw [if_neg h13] at h
  have ht : takes x.op = 2 := by unfold takes; rw [if_neg (by omega), if_neg h11]
  have hp : puts x.op = 1 := by unfold puts; rw [if_neg (by omega)]
  rw [ht] at htk
  split at h
  · rename_i v hv
    cases h
    refine ⟨⟨hc.now, hc.nowV, fun u hu => ?_⟩, by simp [ht, hp]; omega, .inl ⟨rfl, h13⟩, by simp, by simp; omega⟩
    simp only [List.mem_append, List.mem_singleton] at hu; rcases hu with hu | rfl
    · exact hc.stkV u (List.mem_of_mem_take hu)
    · exact calcS_isV hv
  · cases h
end
end Go.Proofs.YtimmncjdknlegaaDoor.AL
namespace Go.Proofs.YtimmncjdknlegaaDoor.AL
theorem reachS_get {hs hs' : List Int} {a : Nat} {h : Int} (e : reachS hs a h = some hs') : hs'[a]? = some h ∧ ∀ (j : Nat) (y : Int), hs[j]? = some y → y ≠ -1 → hs'[j]? = some y := by
  unfold reachS at e
  split at e
  · cases e
  · rename_i y0 hy0
    have hl := (List.getElem?_eq_some_iff.1 hy0).1
    split at e
    · rename_i hc
      simp only [Option.some.injEq] at e; subst e
      refine ⟨by simp [hl], fun j y hj hy => ?_⟩
      rw [List.getElem?_set]
      split
      · rename_i haj; subst haj
        rw [hy0] at hj; cases hj
        rcases hc with h1 | h1
        · exact absurd h1 hy
        · rw [h1]
      · exact hj
    · cases e
structure CertAt (len vars : Int) (ht : Nat → Int) (x : Ins) (i : Nat) : Prop where
  ok : insOk x i len vars = true
  tk : takes x.op ≤ ht i
  pt : ht i - takes x.op + puts x.op ≤ 64
  nxt : x.op ≠ 13 → ht (i + 1) = ht i - takes x.op + puts x.op
  jmp : x.op = 12 ∨ x.op = 13 → ht x.n.toNat = ht i - takes x.op + puts x.op
theorem takes_nn (op : Int) : 0 ≤ takes op := by unfold takes; split <;> (try split) <;> omega
theorem puts_nn (op : Int) : 0 ≤ puts op := by unfold puts; split <;> omega
theorem hStep_get {len vars : Int} {x : Ins} {i : Nat} {hs hs' : List Int} (e : hStep len vars x i hs = some hs') :
    ∃ y, hs[i]? = some y ∧ y ≠ -1 ∧ insOk x i len vars = true ∧ takes x.op ≤ y ∧ y - takes x.op + puts x.op ≤ 64 ∧ (x.op ≠ 13 → hs'[i + 1]? = some (y - takes x.op + puts x.op)) ∧ (x.op = 12 ∨ x.op = 13 → hs'[x.n.toNat]? = some (y - takes x.op + puts x.op)) ∧ ∀ (j : Nat) (y : Int), hs[j]? = some y → y ≠ -1 → hs'[j]? = some y := by
  unfold hStep at e
  split at e
  · cases e
  · rename_i y hy
    split at e
    · cases e
    · rename_i h1
      split at e
      · cases e
      · rename_i h2
        have t1 := takes_nn x.op
        have t2 := puts_nn x.op
        refine ⟨y, hy, fun h => h1 (.inl h), ?_, by omega, by omega, ?_⟩
        · cases h : insOk x i len vars
          · exact absurd (.inr (.inl h)) h1
          · rfl
        split at e
        · rename_i h12
          split at e
          · cases e
          · rename_i hs1 e1
            obtain ⟨a1, a2⟩ := reachS_get e1
            obtain ⟨b1, b2⟩ := reachS_get e
            exact ⟨fun _ => b1, fun _ => b2 _ _ a1 (by omega), fun j y hj hy => b2 j y (a2 j y hj hy) hy⟩
        · rename_i h12
          split at e
          · rename_i h13
            obtain ⟨a1, a2⟩ := reachS_get e
            exact ⟨fun h => absurd h13 h, fun _ => a1, a2⟩
          · rename_i h13
            obtain ⟨a1, a2⟩ := reachS_get e
            exact ⟨fun _ => a1, fun h => by omega, a2⟩
theorem hLoop_cert {len vars : Int} : ∀ (rest : List Ins) (i : Nat) (hs : List Int), hLoop len vars rest i hs = true →
    ∃ ht : Nat → Int, (∀ (j : Nat) (y : Int), hs[j]? = some y → y ≠ -1 → ht j = y) ∧ (∀ (k : Nat) (x : Ins), rest[k]? = some x → CertAt len vars ht x (i + k)) ∧ ht (i + rest.length) = 0
  | [], i, hs, h => by
    unfold hLoop at h
    split at h
    · rename_i y hy
      have h : y = 0 := by simpa using h
      subst h
      exact ⟨fun j => (hs[j]?).getD 0, fun j y hj _ => by simp [hj], by simp, by simp [hy]⟩
    · cases h
  | x :: rest, i, hs, h => by
    unfold hLoop at h
    split at h
    · cases h
    · rename_i hs' e
      obtain ⟨ht, g1, g2, g3⟩ := hLoop_cert rest (i + 1) hs' h
      obtain ⟨y, a1, a2, a3, a4, a5, a6, a7, a8⟩ := hStep_get e
      have t1 := takes_nn x.op
      have t2 := puts_nn x.op
      have hy : ht i = y := g1 _ _ (a8 _ _ a1 a2) a2
      refine ⟨ht, fun j z hj hz => g1 _ _ (a8 _ _ hj hz) hz, fun k u hk => ?_, ?_⟩
      · cases k with
        | zero =>
          simp only [List.getElem?_cons_zero, Option.some.injEq] at hk; subst hk
          rw [Nat.add_zero]
          exact ⟨a3, by rw [hy]; exact a4, by rw [hy]; exact a5, fun h => by rw [hy]; exact g1 _ _ (a6 h) (by omega), fun h => by rw [hy]; exact g1 _ _ (a7 h) (by omega)⟩
        | succ k =>
          have := g2 k u (by simpa using hk)
          rwa [show i + 1 + k = i + (k + 1) by omega] at this
      · rw [← g3]; congr 1; simp only [List.length_cons]; omega
structure Cert (l : List Ins) (vars : Int) (ht : Nat → Int) : Prop where
  len : l.length ≤ 4000
  zero : ht 0 = 0
  at' : ∀ (i : Nat) (x : Ins), l[i]? = some x → CertAt l.length vars ht x i
  last : ht l.length = 0
theorem verH_cert {l : List Ins} {vars : Int} (h : verH l vars = true) : ∃ ht, Cert l vars ht := by
  unfold verH at h
  simp only [Bool.and_eq_true, decide_eq_true_eq] at h
  obtain ⟨ht, g1, g2, g3⟩ := hLoop_cert _ _ _ h.2
  refine ⟨ht, h.1, g1 0 0 (by simp) (by decide), fun i x hx => ?_, ?_⟩
  · have := g2 i x hx; rwa [Nat.zero_add] at this
  · rwa [Nat.zero_add] at g3
theorem stepS_cert {vs : List Vr} {i0 i1 i2 i3 : Int} {l : List Ins} {ht : Nat → Int} (hc : Cert l vs.length ht) {c c' : Cf} {x : Ins} (hx : l[c.at']? = some x) (hk : CfOk vs c) (hh : (c.stk.length : Int) = ht c.at') (hi : ∀ j, isV (inS i0 i1 i2 i3 j)) (h : stepS vs i0 i1 i2 i3 x c = .ok c') :
    CfOk vs c' ∧ (c'.stk.length : Int) = ht c'.at' ∧ c.at' < c'.at' ∧ c'.at' ≤ l.length := by
  have hlt := (List.getElem?_eq_some_iff.1 hx).1
  have hca := hc.at' _ _ hx
  obtain ⟨a1, a2, a3, a4, a5⟩ := stepS_ok h hk ⟨hca.ok, by rw [hh]; exact hca.tk, by rw [hh]; exact hca.pt⟩ hi
  refine ⟨a1, ?_, a4, by omega⟩
  rcases a3 with ⟨h1, h2⟩ | ⟨h1, h2⟩
  · rw [h1, hca.nxt h2]; omega
  · rw [h1, hca.jmp h2]; omega
theorem cert_At {vs : List Vr} {l : List Ins} {ht : Nat → Int} (hc : Cert l vs.length ht) {c : Cf} {x : Ins} (hx : l[c.at']? = some x) (hh : (c.stk.length : Int) = ht c.at') : At vs l.length x c := by
  have hca := hc.at' _ _ hx
  exact ⟨hca.ok, by rw [hh]; exact hca.tk, by rw [hh]; exact hca.pt⟩
end Go.Proofs.YtimmncjdknlegaaDoor.AL
namespace Go.Proofs.YtimmncjdknlegaaDoor.AL
theorem stk_get {stk s : List Int} (h : stk.take s.length = s) {j : Nat} (hj : j < s.length) : stk[j]? = some (s.getD j 0) := by
  have : (stk.take s.length)[j]? = s[j]? := by rw [h]
  rw [List.getElem?_take, if_pos hj] at this
  rw [this, List.getD_eq_getElem?_getD, List.getElem?_eq_getElem hj]; rfl
theorem stk_le {stk s : List Int} (h : stk.take s.length = s) : s.length ≤ stk.length := by
  have := congrArg List.length h
  rw [List.length_take] at this; omega
theorem stk_push {stk s : List Int} (h : stk.take s.length = s) (hl : s.length < stk.length) (v : Int) : (stk.set s.length v).take (s ++ [v]).length = s ++ [v] := by
  rw [List.length_append, List.length_singleton, List.take_add_one, List.take_set_of_le (Nat.le_refl _), h]
  simp [hl]
theorem stk_take {stk s : List Int} (h : stk.take s.length = s) (k : Nat) (hk : k ≤ s.length) : stk.take (s.take k).length = s.take k := by
  rw [List.length_take, Nat.min_eq_left hk]
  conv => rhs; rw [← h]
  rw [List.take_take, Nat.min_eq_left hk]
end Go.Proofs.YtimmncjdknlegaaDoor.AL

set_option maxHeartbeats 8000000
set_option maxRecDepth 20000
set_option linter.unusedVariables false
set_option linter.unusedSimpArgs false
set_option linter.unusedSectionVars false
namespace Go.Proofs.YtimmncjdknlegaaDoor.Y
open Go.Proofs.YtimmncjdknlegaaDoor.AL Go.Proofs Go
attribute [local irreducible] AWP AWL AWG AWR AWE AWX AWO AWSeq AWSG AWSR AWSO AWSE AWSF GoodP OGW OGR OGE OGX PGW PGR PGE Wk AWLoop AWPD AWLD

theorem cfits_run (op nn rel i len vars : Int) (hi : 0 ≤ i ∧ i < 10000) (hv : 0 ≤ vars ∧ vars ≤ 12) (H0 : List AObj) :
    ARun Tryd.prog 46 [.agg [.i op, .i nn, .i rel], .i i, .i len, .i vars] H0 (.ret (.b (insOk ⟨op, nn, rel⟩ i len vars)) H0) := by
  have w1 : IntKind.i64.wrap (vars - 1) = vars - 1 := wrap_of (by omega) (by omega)
  have w2 : IntKind.i64.wrap (i + 1) = i + 1 := wrap_of (by omega) (by omega)
  by_cases h1 : op = 1
  · subst h1
    by_cases hr : rel = 0
    · subst hr
      (refine ARun.intro Tryd.func46 rfl Tryd.call46 Tryd.ntmps46 Tryd.results46 ?_; simp only [List.length_cons, List.length_nil, List.length_map, Nat.reduceAdd, Nat.reduceSub, List.replicate_succ, List.replicate_zero, List.cons_append, List.nil_append])
      (have ww1 := w1; have ww2 := w2; have cc1 := fun z1 => inside_run nn (-1000000000000) (1000000000000) z1; refine wk ?_; clear ww1 ww2 cc1; (repeat' first | exact True.intro | refine Lf.mk ?_ ?_); all_goals intro hP)
      (refine resX ?_; try exact True.intro)
      all_goals simp [insOk]
      all_goals (try first | omega | (rw [Bool.eq_iff_iff]; simp; omega))
    · have hr' : (rel == 0) = false := by simpa using hr
      (refine ARun.intro Tryd.func46 rfl Tryd.call46 Tryd.ntmps46 Tryd.results46 ?_; simp only [List.length_cons, List.length_nil, List.length_map, Nat.reduceAdd, Nat.reduceSub, List.replicate_succ, List.replicate_zero, List.cons_append, List.nil_append])
      (have ww1 := w1; have ww2 := w2; have ww3 := hr'; refine wk ?_; clear ww1 ww2 ww3; (repeat' first | exact True.intro | refine Lf.mk ?_ ?_); all_goals intro hP)
      (refine resX ?_; try exact True.intro)
      all_goals simp [insOk, hr]
  by_cases h2 : op = 2
  · subst h2
    by_cases hr : rel = 0
    · subst hr
      (refine ARun.intro Tryd.func46 rfl Tryd.call46 Tryd.ntmps46 Tryd.results46 ?_; simp only [List.length_cons, List.length_nil, List.length_map, Nat.reduceAdd, Nat.reduceSub, List.replicate_succ, List.replicate_zero, List.cons_append, List.nil_append])
      (have ww1 := w1; have ww2 := w2; have cc1 := fun z1 => inside_run nn (0) (vars - 1) z1; refine wk ?_; clear ww1 ww2 cc1; (repeat' first | exact True.intro | refine Lf.mk ?_ ?_); all_goals intro hP)
      (refine resX ?_; try exact True.intro)
      all_goals simp [insOk]
      all_goals (try first | omega | (rw [Bool.eq_iff_iff]; simp; omega))
    · have hr' : (rel == 0) = false := by simpa using hr
      (refine ARun.intro Tryd.func46 rfl Tryd.call46 Tryd.ntmps46 Tryd.results46 ?_; simp only [List.length_cons, List.length_nil, List.length_map, Nat.reduceAdd, Nat.reduceSub, List.replicate_succ, List.replicate_zero, List.cons_append, List.nil_append])
      (have ww1 := w1; have ww2 := w2; have ww3 := hr'; refine wk ?_; clear ww1 ww2 ww3; (repeat' first | exact True.intro | refine Lf.mk ?_ ?_); all_goals intro hP)
      (refine resX ?_; try exact True.intro)
      all_goals simp [insOk, hr]
  by_cases h11 : op = 11
  · subst h11
    by_cases hr : rel = 0
    · subst hr
      (refine ARun.intro Tryd.func46 rfl Tryd.call46 Tryd.ntmps46 Tryd.results46 ?_; simp only [List.length_cons, List.length_nil, List.length_map, Nat.reduceAdd, Nat.reduceSub, List.replicate_succ, List.replicate_zero, List.cons_append, List.nil_append])
      (have ww1 := w1; have ww2 := w2; have cc1 := fun z1 => inside_run nn (0) (vars - 1) z1; refine wk ?_; clear ww1 ww2 cc1; (repeat' first | exact True.intro | refine Lf.mk ?_ ?_); all_goals intro hP)
      (refine resX ?_; try exact True.intro)
      all_goals simp [insOk]
      all_goals (try first | omega | (rw [Bool.eq_iff_iff]; simp; omega))
    · have hr' : (rel == 0) = false := by simpa using hr
      (refine ARun.intro Tryd.func46 rfl Tryd.call46 Tryd.ntmps46 Tryd.results46 ?_; simp only [List.length_cons, List.length_nil, List.length_map, Nat.reduceAdd, Nat.reduceSub, List.replicate_succ, List.replicate_zero, List.cons_append, List.nil_append])
      (have ww1 := w1; have ww2 := w2; have ww3 := hr'; refine wk ?_; clear ww1 ww2 ww3; (repeat' first | exact True.intro | refine Lf.mk ?_ ?_); all_goals intro hP)
      (refine resX ?_; try exact True.intro)
      all_goals simp [insOk, hr]
  by_cases h3 : op = 3
  · subst h3
    by_cases hr : rel = 0
    · subst hr
      (refine ARun.intro Tryd.func46 rfl Tryd.call46 Tryd.ntmps46 Tryd.results46 ?_; simp only [List.length_cons, List.length_nil, List.length_map, Nat.reduceAdd, Nat.reduceSub, List.replicate_succ, List.replicate_zero, List.cons_append, List.nil_append])
      (have ww1 := w1; have ww2 := w2; have cc1 := fun z1 => inside_run nn (0) (3) z1; refine wk ?_; clear ww1 ww2 cc1; (repeat' first | exact True.intro | refine Lf.mk ?_ ?_); all_goals intro hP)
      (refine resX ?_; try exact True.intro)
      all_goals simp [insOk]
      all_goals (try first | omega | (rw [Bool.eq_iff_iff]; simp; omega))
    · have hr' : (rel == 0) = false := by simpa using hr
      (refine ARun.intro Tryd.func46 rfl Tryd.call46 Tryd.ntmps46 Tryd.results46 ?_; simp only [List.length_cons, List.length_nil, List.length_map, Nat.reduceAdd, Nat.reduceSub, List.replicate_succ, List.replicate_zero, List.cons_append, List.nil_append])
      (have ww1 := w1; have ww2 := w2; have ww3 := hr'; refine wk ?_; clear ww1 ww2 ww3; (repeat' first | exact True.intro | refine Lf.mk ?_ ?_); all_goals intro hP)
      (refine resX ?_; try exact True.intro)
      all_goals simp [insOk, hr]
  by_cases h12 : op = 12
  · subst h12
    by_cases hd : i < nn ∧ nn ≤ len
    · have hin : (decide (i + 1 ≤ nn) && decide (nn ≤ len)) = true := by simp; omega
      have hc := inside_run nn (i + 1) len
      simp only [hin] at hc
      (refine ARun.intro Tryd.func46 rfl Tryd.call46 Tryd.ntmps46 Tryd.results46 ?_; simp only [List.length_cons, List.length_nil, List.length_map, Nat.reduceAdd, Nat.reduceSub, List.replicate_succ, List.replicate_zero, List.cons_append, List.nil_append])
      (have ww1 := w1; have ww2 := w2; have cc1 := fun z1 => hc z1; have cc2 := fun z1 => inside_run rel 1 6 z1; refine wk ?_; clear ww1 ww2 cc1 cc2; (repeat' first | exact True.intro | refine Lf.mk ?_ ?_); all_goals intro hP)
      (refine resX ?_; try exact True.intro)
      all_goals simp [insOk]
      all_goals (try first | omega | (rw [Bool.eq_iff_iff]; simp; omega))
    · have hin : (decide (i + 1 ≤ nn) && decide (nn ≤ len)) = false := by simp; omega
      have hc := inside_run nn (i + 1) len
      simp only [hin] at hc
      (refine ARun.intro Tryd.func46 rfl Tryd.call46 Tryd.ntmps46 Tryd.results46 ?_; simp only [List.length_cons, List.length_nil, List.length_map, Nat.reduceAdd, Nat.reduceSub, List.replicate_succ, List.replicate_zero, List.cons_append, List.nil_append])
      (have ww1 := w1; have ww2 := w2; have cc1 := fun z1 => hc z1; refine wk ?_; clear ww1 ww2 cc1; (repeat' first | exact True.intro | refine Lf.mk ?_ ?_); all_goals intro hP)
      (refine resX ?_; try exact True.intro)
      all_goals simp [insOk]
      all_goals (try first | omega | (rw [Bool.eq_iff_iff]; simp; omega))
  by_cases h13 : op = 13
  · subst h13
    by_cases hr : rel = 0
    · subst hr
      (refine ARun.intro Tryd.func46 rfl Tryd.call46 Tryd.ntmps46 Tryd.results46 ?_; simp only [List.length_cons, List.length_nil, List.length_map, Nat.reduceAdd, Nat.reduceSub, List.replicate_succ, List.replicate_zero, List.cons_append, List.nil_append])
      (have ww1 := w1; have ww2 := w2; have cc1 := fun z1 => inside_run nn (i + 1) (len) z1; refine wk ?_; clear ww1 ww2 cc1; (repeat' first | exact True.intro | refine Lf.mk ?_ ?_); all_goals intro hP)
      (refine resX ?_; try exact True.intro)
      all_goals simp [insOk]
      all_goals (try first | omega | (rw [Bool.eq_iff_iff]; simp; omega))
    · have hr' : (rel == 0) = false := by simpa using hr
      (refine ARun.intro Tryd.func46 rfl Tryd.call46 Tryd.ntmps46 Tryd.results46 ?_; simp only [List.length_cons, List.length_nil, List.length_map, Nat.reduceAdd, Nat.reduceSub, List.replicate_succ, List.replicate_zero, List.cons_append, List.nil_append])
      (have ww1 := w1; have ww2 := w2; have ww3 := hr'; refine wk ?_; clear ww1 ww2 ww3; (repeat' first | exact True.intro | refine Lf.mk ?_ ?_); all_goals intro hP)
      (refine resX ?_; try exact True.intro)
      all_goals simp [insOk, hr]
  have e1 : (op == 1) = false := by simpa using h1
  have e2 : (op == 2) = false := by simpa using h2
  have e11 : (op == 11) = false := by simpa using h11
  have e3 : (op == 3) = false := by simpa using h3
  have e12 : (op == 12) = false := by simpa using h12
  have e13 : (op == 13) = false := by simpa using h13
  by_cases hr : rel = 0
  · subst hr
    by_cases hn0 : nn = 0
    · subst hn0
      (refine ARun.intro Tryd.func46 rfl Tryd.call46 Tryd.ntmps46 Tryd.results46 ?_; simp only [List.length_cons, List.length_nil, List.length_map, Nat.reduceAdd, Nat.reduceSub, List.replicate_succ, List.replicate_zero, List.cons_append, List.nil_append])
      (have ww1 := w1; have ww2 := w2; have ww3 := e1; have ww4 := e2; have ww5 := e11; have ww6 := e3; have ww7 := e12; have ww8 := e13; have cc1 := fun z1 => inside_run op 4 10 z1; refine wk ?_; clear ww1 ww2 ww3 ww4 ww5 ww6 ww7 ww8 cc1; (repeat' first | exact True.intro | refine Lf.mk ?_ ?_); all_goals intro hP)
      (refine resX ?_; try exact True.intro)
      all_goals simp [insOk, h1, h2, h3, h11, h12, h13]
    · have hn' : (nn == 0) = false := by simpa using hn0
      (refine ARun.intro Tryd.func46 rfl Tryd.call46 Tryd.ntmps46 Tryd.results46 ?_; simp only [List.length_cons, List.length_nil, List.length_map, Nat.reduceAdd, Nat.reduceSub, List.replicate_succ, List.replicate_zero, List.cons_append, List.nil_append])
      (have ww1 := w1; have ww2 := w2; have ww3 := e1; have ww4 := e2; have ww5 := e11; have ww6 := e3; have ww7 := e12; have ww8 := e13; have ww9 := hn'; refine wk ?_; clear ww1 ww2 ww3 ww4 ww5 ww6 ww7 ww8 ww9; (repeat' first | exact True.intro | refine Lf.mk ?_ ?_); all_goals intro hP)
      (refine resX ?_; try exact True.intro)
      all_goals simp [insOk, h1, h2, h3, h11, h12, h13, hn0]
  · have hr' : (rel == 0) = false := by simpa using hr
    (refine ARun.intro Tryd.func46 rfl Tryd.call46 Tryd.ntmps46 Tryd.results46 ?_; simp only [List.length_cons, List.length_nil, List.length_map, Nat.reduceAdd, Nat.reduceSub, List.replicate_succ, List.replicate_zero, List.cons_append, List.nil_append])
    (have ww1 := w1; have ww2 := w2; have ww3 := e1; have ww4 := e2; have ww5 := e11; have ww6 := e3; have ww7 := e12; have ww8 := e13; have ww9 := hr'; refine wk ?_; clear ww1 ww2 ww3 ww4 ww5 ww6 ww7 ww8 ww9; (repeat' first | exact True.intro | refine Lf.mk ?_ ?_); all_goals intro hP)
    (refine resX ?_; try exact True.intro)
    all_goals simp [insOk, h1, h2, h3, h11, h12, h13, hr]
abbrev effP : List PV := [.i 0, .i 0, .i 0, .i 1, .i 0, .i 1, .i 0, .i 1, .i 2, .i 1, .i 2, .i 1, .i 2, .i 1, .i 2, .i 1, .i 2, .i 1, .i 2, .i 1, .i 2, .i 1, .i 1, .i 0, .i 2, .i 0, .i 0, .i 0]
theorem effects_run (H0 : List AObj) : ARun Tryd.prog 44 [] H0 (.ret (.agg (effP.map AV.pv)) H0) := by
  (refine ARun.intro Tryd.func44 rfl Tryd.call44 Tryd.ntmps44 Tryd.results44 ?_; simp only [List.length_cons, List.length_nil, List.length_map, Nat.reduceAdd, Nat.reduceSub, List.replicate_succ, List.replicate_zero, List.cons_append, List.nil_append])
  (refine wk ?_; (repeat' first | exact True.intro | refine Lf.mk ?_ ?_); all_goals intro hP)
  (refine resX ?_; try exact True.intro)
end Go.Proofs.YtimmncjdknlegaaDoor.Y

set_option maxHeartbeats 8000000
set_option maxRecDepth 20000
set_option linter.unusedVariables false
set_option linter.unusedSimpArgs false
set_option linter.unusedSectionVars false
namespace Go.Proofs.YtimmncjdknlegaaDoor.Y
open Go.Proofs.YtimmncjdknlegaaDoor.AL Go.Proofs Go
attribute [local irreducible] AWP AWL AWG AWR AWE AWX AWO AWSeq AWSG AWSR AWSO AWSE AWSF GoodP OGW OGR OGE OGX PGW PGR PGE Wk AWLoop AWPD AWLD

abbrev rW (now : List Int) : AObj := .arr 3 1 (now.map fun v => [AV.i v])
theorem reach_run (hs : List Int) (n : Nat) (hn' : hs.length = n) (a : Nat) (y h : Int) (hy : hs[a]? = some y) (t : TypeId) (cid rid : Nat) (H0 : List AObj) (hc : H0[cid]? = some (.cells t [.os rid 0 n n])) (hr : H0[rid]? = some (rW hs)) (hne : rid ≠ cid) :
    ARun Tryd.prog 45 [.i (a : Nat), .i h, .p cid 0] H0 (.ret (.b (y == -1 || y == h)) (H0.set rid (rW (hs.set a h)))) := by
  have han : (a : Int) < n := by have := (List.getElem?_eq_some_iff.1 hy).1; omega
  have hy' : (hs.map fun v => [AV.i v])[a]? = some [AV.i y] := by rw [List.getElem?_map, hy]; rfl
  by_cases h1 : y = -1
  · subst h1
    (refine ARun.intro Tryd.func45 rfl Tryd.call45 Tryd.ntmps45 Tryd.results45 ?_; simp only [List.length_cons, List.length_nil, List.length_map, Nat.reduceAdd, Nat.reduceSub, List.replicate_succ, List.replicate_zero, List.cons_append, List.nil_append])
    (have ww1 := hc; have ww2 := hr; have ww3 := getSet hr; have ww4 := han; have ww5 := hy; have ww6 := hy'; have ww7 := hn'; have ww8 := @row_set; refine wkS ?_; clear ww1 ww2 ww3 ww4 ww5 ww6 ww7 ww8; (repeat' first | exact True.intro | refine Lf.mk ?_ ?_); all_goals intro hP)
    ((try simp only [go_sem, Nat.reduceAdd, Nat.reduceSub, Nat.reduceMul, Nat.reduceLeDiff, Nat.reduceLT, Nat.reduceEqDiff, Int.reduceToNat, Int.reduceAdd, Int.reduceMul, Int.reduceSub, Int.reduceLT, Int.reduceLE, Int.reduceEq, Int.reduceNeg, Int.reduceBEq, Int.reduceBNe, ↓reduceIte, reduceCtorEq]); (first | refine ⟨_, rfl, _, rfl, Fin.set0 1 ?_ ?_⟩ | refine ⟨_, rfl, _, rfl, Fin.set 1 ?_ ?_⟩))
    · exact row_under
    · simp only [AV.low]; simp
  · have h1' : (y == -1) = false := by simpa using h1
    (refine ARun.intro Tryd.func45 rfl Tryd.call45 Tryd.ntmps45 Tryd.results45 ?_; simp only [List.length_cons, List.length_nil, List.length_map, Nat.reduceAdd, Nat.reduceSub, List.replicate_succ, List.replicate_zero, List.cons_append, List.nil_append])
    (have ww1 := hc; have ww2 := hr; have ww3 := getSet hr; have ww4 := han; have ww5 := hy; have ww6 := hy'; have ww7 := h1'; have ww8 := hn'; have ww9 := @row_set; refine wkS ?_; clear ww1 ww2 ww3 ww4 ww5 ww6 ww7 ww8 ww9; (repeat' first | exact True.intro | refine Lf.mk ?_ ?_); all_goals intro hP)
    ((try simp only [go_sem, Nat.reduceAdd, Nat.reduceSub, Nat.reduceMul, Nat.reduceLeDiff, Nat.reduceLT, Nat.reduceEqDiff, Int.reduceToNat, Int.reduceAdd, Int.reduceMul, Int.reduceSub, Int.reduceLT, Int.reduceLE, Int.reduceEq, Int.reduceNeg, Int.reduceBEq, Int.reduceBNe, ↓reduceIte, reduceCtorEq]); (first | refine ⟨_, rfl, _, rfl, Fin.set0 1 ?_ ?_⟩ | refine ⟨_, rfl, _, rfl, Fin.set 1 ?_ ?_⟩))
    · exact row_under
    · simp only [AV.low]; simp [h1]
end Go.Proofs.YtimmncjdknlegaaDoor.Y

/- Plain laws: the heights of a stack, step by step. -/
set_option linter.unusedVariables false
namespace Go.Proofs.YtimmncjdknlegaaDoor.AL
section
variable {len vars : Int} {x : Ins} {i : Nat} {hs : List Int} {y : Int}
theorem hLoop_cons (rest : List Ins) : hLoop len vars (x :: rest) i hs = match hStep len vars x i hs with
  | none => false
  | some hs' => hLoop len vars rest (i + 1) hs' := rfl
theorem hLoop_nil (hy : hs[i]? = some y) : hLoop len vars [] i hs = decide (y = 0) := by simp only [hLoop, hy]
theorem hStep_bad (hy : hs[i]? = some y) (h : y = -1 ∨ insOk x i len vars = false ∨ y < takes x.op) : hStep len vars x i hs = none := by
  simp only [hStep, hy, if_pos h]
theorem hStep_deep (hy : hs[i]? = some y) (h : 64 < y - takes x.op + puts x.op) : hStep len vars x i hs = none := by
  simp only [hStep, hy, if_pos h]
  split <;> rfl
theorem hStep_12 (hy : hs[i]? = some y) (h1 : ¬ (y = -1 ∨ insOk x i len vars = false ∨ y < takes x.op)) (h2 : ¬ 64 < y - takes x.op + puts x.op) (h : x.op = 12) :
    hStep len vars x i hs = match reachS hs x.n.toNat (y - takes x.op + puts x.op) with
      | none => none
      | some hs1 => reachS hs1 (i + 1) (y - takes x.op + puts x.op) := by
  simp only [hStep, hy, if_neg h1, if_neg h2, if_pos h]
  all_goals (cases reachS hs x.n.toNat (y - takes x.op + puts x.op) <;> rfl)
theorem hStep_13 (hy : hs[i]? = some y) (h1 : ¬ (y = -1 ∨ insOk x i len vars = false ∨ y < takes x.op)) (h2 : ¬ 64 < y - takes x.op + puts x.op) (h : x.op = 13) :
    hStep len vars x i hs = reachS hs x.n.toNat (y - takes x.op + puts x.op) := by
  simp only [hStep, hy, if_neg h1, if_neg h2, if_neg (show ¬ x.op = 12 by omega), if_pos h]
theorem hStep_go (hy : hs[i]? = some y) (h1 : ¬ (y = -1 ∨ insOk x i len vars = false ∨ y < takes x.op)) (h2 : ¬ 64 < y - takes x.op + puts x.op) (h : x.op ≠ 12) (h' : x.op ≠ 13) :
    hStep len vars x i hs = reachS hs (i + 1) (y - takes x.op + puts x.op) := by
  simp only [hStep, hy, if_neg h1, if_neg h2, if_neg h, if_neg h']
theorem reachS_ok {a : Nat} {h : Int} (hy : hs[a]? = some y) (hc : y = -1 ∨ y = h) : reachS hs a h = some (hs.set a h) := by
  simp only [reachS, hy, if_pos hc]
theorem reachS_no {a : Nat} {h : Int} (hy : hs[a]? = some y) (hc : ¬ (y = -1 ∨ y = h)) : reachS hs a h = none := by
  simp only [reachS, hy, if_neg hc]
end
/-- Heights as they may be. -/
def HsOk (hs : List Int) : Prop := ∀ y ∈ hs, -1 ≤ y ∧ y ≤ 64
theorem HsOk.get {hs : List Int} (h : HsOk hs) {i : Nat} {y : Int} (hy : hs[i]? = some y) : -1 ≤ y ∧ y ≤ 64 := h y (List.mem_of_getElem? hy)
theorem HsOk.set {hs : List Int} (h : HsOk hs) (a : Nat) {y : Int} (hy : -1 ≤ y ∧ y ≤ 64) : HsOk (hs.set a y) := by
  intro z hz
  rcases List.mem_or_eq_of_mem_set hz with hz | rfl
  · exact h z hz
  · exact hy
theorem HsOk.start (n : Nat) : HsOk (0 :: List.replicate n (-1)) := by
  intro y hy
  simp only [List.mem_cons, List.mem_replicate] at hy
  omega
theorem get_some {hs : List Int} {i : Nat} (h : i < hs.length) : ∃ y, hs[i]? = some y := ⟨hs[i], List.getElem?_eq_getElem h⟩
theorem fill_step {A B : List Int} (hl : A.length = B.length) {k : Nat} {x : Int} (hk : A[k]? = some x) : (A.take k ++ B.drop k).set k x = A.take (k + 1) ++ B.drop (k + 1) := by
  have hlt := (List.getElem?_eq_some_iff.1 hk).1
  have hx := (List.getElem?_eq_some_iff.1 hk).2
  rw [List.set_append_right (h := by rw [List.length_take]; omega), List.length_take, Nat.min_eq_left (by omega), Nat.sub_self, List.take_add_one, hk]
  rw [List.drop_eq_getElem_cons (show k < B.length by omega), List.set_cons_zero, Option.toList_some, List.append_assoc, List.singleton_append]
theorem insOk_jump {x : Ins} {i len vars : Int} (h : insOk x i len vars = true) (ho : x.op = 12 ∨ x.op = 13) : i < x.n ∧ x.n ≤ len := by
  unfold insOk at h
  rcases ho with ho | ho <;> simp [ho] at h <;> omega
theorem verH_eq {l : List Ins} {vars : Int} (h : l.length ≤ 4000) : verH l vars = hLoop l.length vars l 0 (0 :: List.replicate l.length (-1)) := by
  unfold verH; rw [decide_eq_true h, Bool.true_and]
end Go.Proofs.YtimmncjdknlegaaDoor.AL
namespace Go.Proofs.YtimmncjdknlegaaDoor.AL
theorem reachS_getD {hs : List Int} {a : Nat} {h : Int} (ha : a < hs.length) : reachS hs a h = if hs.getD a 0 = -1 ∨ hs.getD a 0 = h then some (hs.set a h) else none := by
  simp only [reachS, List.getD_eq_getElem?_getD, List.getElem?_eq_getElem ha, Option.getD_some]
theorem hStep_ok {len vars : Int} {x : Ins} {i : Nat} {hs : List Int} {y : Int} (hy : hs[i]? = some y) (hok : insOk x i len vars = true) (hl : (hs.length : Int) = len + 1) (hi : i + 1 < hs.length) :
    hStep len vars x i hs = if y = -1 ∨ y < takes x.op then none else if 64 < y - takes x.op + puts x.op then none else
      if x.op = 12 then (if hs.getD x.n.toNat 0 = -1 ∨ hs.getD x.n.toNat 0 = y - takes x.op + puts x.op then
        (if (hs.set x.n.toNat (y - takes x.op + puts x.op)).getD (i + 1) 0 = -1 ∨ (hs.set x.n.toNat (y - takes x.op + puts x.op)).getD (i + 1) 0 = y - takes x.op + puts x.op then some ((hs.set x.n.toNat (y - takes x.op + puts x.op)).set (i + 1) (y - takes x.op + puts x.op)) else none) else none)
      else if x.op = 13 then (if hs.getD x.n.toNat 0 = -1 ∨ hs.getD x.n.toNat 0 = y - takes x.op + puts x.op then some (hs.set x.n.toNat (y - takes x.op + puts x.op)) else none)
      else if hs.getD (i + 1) 0 = -1 ∨ hs.getD (i + 1) 0 = y - takes x.op + puts x.op then some (hs.set (i + 1) (y - takes x.op + puts x.op)) else none := by
  have hj := insOk_jump hok
  simp only [hStep, hy, hok, Bool.true_eq_false, false_or]
  split
  · rfl
  · split
    · rfl
    · split
      · rename_i h12
        have hn : x.n.toNat < hs.length := by have := hj (.inl h12); omega
        rw [reachS_getD hn]
        split
        · rename_i hs1 he
          split at he
          · cases he
          · rw [if_neg ‹_›]
        · rename_i hs1 he
          split at he
          · simp only [Option.some.injEq] at he; subst he
            rw [if_pos ‹_›, reachS_getD (by simpa using hi)]
          · cases he
      · split
        · rename_i h13
          have hn : x.n.toNat < hs.length := by have := hj (.inr h13); omega
          rw [reachS_getD hn]
        · rw [reachS_getD hi]
end Go.Proofs.YtimmncjdknlegaaDoor.AL

set_option maxHeartbeats 8000000
set_option maxRecDepth 100000
set_option linter.unusedVariables false
set_option linter.unusedSimpArgs false
set_option linter.unusedSectionVars false
namespace Go.Proofs.YtimmncjdknlegaaDoor.Y
open Go.Proofs.YtimmncjdknlegaaDoor.AL Go.Proofs Go
attribute [local irreducible] AWP AWL AWG AWR AWE AWX AWO AWSeq AWSG AWSR AWSO AWSE AWSF GoodP OGW OGR OGE OGX PGW PGR PGE Wk AWLoop AWPD AWLD
theorem dr36_14_X11a : Drawn Tryd.prog 14 (regOps 14 ((Tryd.f36.body).getD .skip)) [11] [] [.win [0], .win [0], .win [0], .win [0], .win [0], .win [0], .win [0], .win [0], .win [0], .win [0], .win [0], .eff 0, .win [1], .win [1], .win [1], .win [1], .win [1], .win [1], .win [1], .win [1], .win [1], .win [1], .win [1], .win [1], .win [1], .win [1]] 1 [] := ⟨rfl, by as_aux_lemma => kernel_rfl⟩
theorem dr36_16_X11a : Drawn Tryd.prog 16 (regOps 16 ((Tryd.f36.body).getD .skip)) [] [] [.win [0], .win [0], .win [0], .win [0], .win [0], .win [0], .win [0], .win [0], .win [0], .win [0], .win [0], .win [0], .win [0], .win [0], .win [0], .win [0], .win [0]] 0 [] := ⟨rfl, by as_aux_lemma => kernel_rfl⟩

def effC : List AV := effP.map AV.pv
theorem effC_len : effC.length = 28 := rfl
theorem effC_under {t : TypeId} {m : Nat} : (AObj.cells t effC).under m := by
  intro c hc
  obtain ⟨p, _, rfl⟩ := List.mem_map.1 hc
  simp only [AV.under]
theorem hdr_under {t : TypeId} {n k : Nat} : (AObj.cells t [.os n 0 k k]).under (n + 3) := by
  intro c hc
  rw [List.mem_singleton] at hc
  subst hc
  simp only [AV.under]; omega
theorem effC_get {op : Int} (h : 1 ≤ op ∧ op ≤ 13) : effC[op.toNat * 2]? = some (.i (takes op)) ∧ effC[op.toNat * 2 + 1]? = some (.i (puts op)) := by
  obtain ⟨n, rfl⟩ : ∃ n : Nat, op = n := ⟨op.toNat, by omega⟩
  have h1 : 1 ≤ n := by omega
  have h2 : n ≤ 13 := by omega
  have key : ∀ n : Fin 14, 1 ≤ n.val → effC[n.val * 2]? = some (.i (takes n.val)) ∧ effC[n.val * 2 + 1]? = some (.i (puts n.val)) := by
    intro n hn
    match n, hn with
    | ⟨1, _⟩, _ => exact ⟨rfl, rfl⟩
    | ⟨2, _⟩, _ => exact ⟨rfl, rfl⟩
    | ⟨3, _⟩, _ => exact ⟨rfl, rfl⟩
    | ⟨4, _⟩, _ => exact ⟨rfl, rfl⟩
    | ⟨5, _⟩, _ => exact ⟨rfl, rfl⟩
    | ⟨6, _⟩, _ => exact ⟨rfl, rfl⟩
    | ⟨7, _⟩, _ => exact ⟨rfl, rfl⟩
    | ⟨8, _⟩, _ => exact ⟨rfl, rfl⟩
    | ⟨9, _⟩, _ => exact ⟨rfl, rfl⟩
    | ⟨10, _⟩, _ => exact ⟨rfl, rfl⟩
    | ⟨11, _⟩, _ => exact ⟨rfl, rfl⟩
    | ⟨12, _⟩, _ => exact ⟨rfl, rfl⟩
    | ⟨13, _⟩, _ => exact ⟨rfl, rfl⟩
  exact key ⟨n, by omega⟩ h1
theorem reach_runN (hs : List Int) (n : Nat) (hn' : hs.length = n) (nn : Int) (hnn : 0 ≤ nn ∧ nn < n) (h : Int) (t : TypeId) (cid rid : Nat) (H0 : List AObj) (hc : H0[cid]? = some (.cells t [.os rid 0 n n])) (hr : H0[rid]? = some (rW hs)) (hne : rid ≠ cid) :
    ARun Tryd.prog 45 [.i nn, .i h, .p cid 0] H0 (.ret (.b (hs.getD nn.toNat 0 == -1 || hs.getD nn.toNat 0 == h)) (H0.set rid (rW (hs.set nn.toNat h)))) := by
  obtain ⟨a, rfl⟩ : ∃ a : Nat, nn = a := ⟨nn.toNat, by omega⟩
  rw [Int.toNat_natCast]
  have ha : a < hs.length := by omega
  have := reach_run hs n hn' a (hs.getD a 0) h (by rw [List.getD_eq_getElem?_getD, List.getElem?_eq_getElem ha]; rfl) t cid rid H0 hc hr hne
  exact this
theorem handler_run (l : List Ins) (vars : Int) (hv : 0 ≤ vars ∧ vars ≤ 12) (hl : l.length ≤ 2000000) (H0 : List AObj) :
    ARun Tryd.prog 36 [.rs 3 (l.map encI), .i vars] H0 (.ret (.b (verH l vars)) H0) := by
  by_cases h4 : (4000 : Int) < l.length
  · have h4' : ¬ l.length ≤ 4000 := by omega
    (refine ARun.intro Tryd.func36 rfl Tryd.call36 Tryd.ntmps36 Tryd.results36 ?_; simp only [List.length_cons, List.length_nil, List.length_map, Nat.reduceAdd, Nat.reduceSub, List.replicate_succ, List.replicate_zero, List.cons_append, List.nil_append])
    (have rr1 := dr36_14_X11a; have rr2 := dr36_16_X11a; have ww1 := h4; refine wk ?_; clear rr1 rr2 ww1; (repeat' first | exact True.intro | refine Lf.mk ?_ ?_); all_goals intro hP)
    (refine resX ?_; try exact True.intro)
    simp [verH, h4']
  · have h4' : l.length ≤ 4000 := by omega
    have w1 : IntKind.i64.wrap ((l.length : Int) + 1) = ((l.length + 1 : Nat) : Int) := by rw [wrap_of (by omega) (by omega)]; omega
    have hk1 : ((l.length + 1 : Nat) : Int) ≤ 281474976710656 := by omega
    have hk2 : 8 * ((l.length + 1 : Nat) : Int) ≤ 281474976710656 := by omega
    have heff := fun H0 => effects_run H0
    (refine ARun.intro Tryd.func36 rfl Tryd.call36 Tryd.ntmps36 Tryd.results36 ?_; simp only [List.length_cons, List.length_nil, List.length_map, Nat.reduceAdd, Nat.reduceSub, List.replicate_succ, List.replicate_zero, List.cons_append, List.nil_append])
    (have ww1 := h4; refine wk ?_; clear ww1; (repeat' first | exact True.intro | refine Lf.mk ?_ ?_); all_goals intro hP)
    refine awp_drawnO_c (id := 3) [4, 5, 6, 7, 8] [([4, 5, 6, 7, 8], [0, 1, 2, 3, 4, 5, 6, 7, 8], [.win [0, 1, 2, 3], .win [0], .win [0], .win [0], .eff 0, .eff 1, .eff 2, .eff 3, .eff 4]), ([4, 6, 5, 7, 8], [0, 1, 2, 3, 4, 6, 5, 7, 8], [.win [0, 1, 2, 3], .win [0], .win [0], .win [0], .eff 0, .eff 2, .eff 1, .eff 3, .eff 4]), ([5, 4, 6, 7, 8], [0, 1, 2, 3, 5, 4, 6, 7, 8], [.win [0, 1, 2, 3], .win [0, 1], .win [0, 1], .win [0, 1], .eff 1, .eff 0, .eff 2, .eff 3, .eff 4]), ([5, 6, 4, 7, 8], [0, 1, 2, 3, 5, 6, 4, 7, 8], [.win [0, 1, 2, 3], .win [0, 1, 2], .win [0, 1, 2], .win [0, 1, 2], .eff 2, .eff 0, .eff 1, .eff 3, .eff 4]), ([5, 6, 7, 4, 8], [0, 1, 2, 3, 5, 6, 7, 4, 8], [.win [0, 1, 2], .win [0, 1, 2, 3], .win [0, 1, 2, 3], .win [0, 1, 2, 3], .eff 3, .eff 0, .eff 1, .eff 2, .eff 4]), ([6, 4, 5, 7, 8], [0, 1, 2, 3, 6, 4, 5, 7, 8], [.win [0, 1, 2, 3], .win [0, 1], .win [0, 1], .win [0, 1], .eff 1, .eff 2, .eff 0, .eff 3, .eff 4]), ([6, 5, 4, 7, 8], [0, 1, 2, 3, 6, 5, 4, 7, 8], [.win [0, 1, 2, 3], .win [0, 1, 2], .win [0, 1, 2], .win [0, 1, 2], .eff 2, .eff 1, .eff 0, .eff 3, .eff 4]), ([6, 5, 7, 4, 8], [0, 1, 2, 3, 6, 5, 7, 4, 8], [.win [0, 1, 2], .win [0, 1, 2, 3], .win [0, 1, 2, 3], .win [0, 1, 2, 3], .eff 3, .eff 1, .eff 0, .eff 2, .eff 4])] 5 rfl (by as_aux_lemma => kernel_rfl) ((.rs 3 (l.map encI) :: .i vars :: .any :: .any :: .any :: .p (H0.length + 1) 0 :: .p (H0.length + 2) 0 :: .any :: .any :: .any :: .any :: .any :: .any :: .any :: .any :: .any :: .any :: .any :: .any :: .any :: .any :: .any :: .any :: .any :: .any :: .any :: .any :: .any :: .any :: .any :: .any :: .any :: .any :: .any :: .any :: .any :: .any :: .any :: .any :: .any :: .any :: .any :: .any :: .any :: .any :: .any :: .any :: .any :: .any :: .any :: .any :: .any :: .any :: .any :: .any :: .any :: .any :: .any :: .any :: .any :: .any :: .any :: .any :: .any :: .any :: .any :: .any :: .any :: .any :: .any :: .any :: .any :: .any :: .any :: .any :: .any :: .any :: .any :: .any :: .any :: .any :: .any :: .any :: .any :: .any :: .any :: .any :: .any :: .any :: .any :: .any :: .any :: .any :: .any :: .any :: .any :: .any :: .any :: .any :: .any :: .any :: .any :: .any :: .any :: .any :: .any :: .any :: .any :: .any :: .any :: .any :: .any :: .any :: .any :: []))
      (H0 ++ [rW (List.replicate (l.length + 1) 0), .cells 74 effC, .cells 27 [.os H0.length 0 (l.length + 1) (l.length + 1)]]) (fun tm H wk h => by simp only [AEx.thn] at h ⊢; exact awp_wk wk h) ?_ (fun Kp W hW => ?_)
    · simp only [AEx.thn]
      (have ww1 := h4; refine wkO ?_; clear ww1; (repeat' first | exact True.intro | refine Lf.mk ?_ ?_); all_goals intro hP)
      refine awp_loop_ind (σ := Nat) (fun k => l.length + 1 - k) (fun k => k ≤ l.length + 1)
        (fun k => (.rs 3 (l.map encI) :: .i vars :: .any :: .any :: .any :: .p (H0.length + 1) 0 :: .p (H0.length + 2) 0 :: .any :: .any :: .any :: .any :: .any :: .any :: .any :: .any :: .any :: .any :: .any :: .any :: .any :: .any :: .i (l.length + 1 : Nat) :: .i k :: .any :: .any :: .any :: .any :: .any :: .any :: .any :: .any :: .any :: .any :: .any :: .any :: .any :: .any :: .any :: .any :: .any :: .any :: .any :: .any :: .any :: .any :: .any :: .any :: .any :: .any :: .any :: .any :: .any :: .any :: .any :: .any :: .any :: .any :: .any :: .any :: .any :: .any :: .any :: .any :: .any :: .any :: .any :: .any :: .any :: .any :: .any :: .any :: .any :: .any :: .any :: .any :: .any :: .any :: .any :: .any :: .any :: .any :: .any :: .any :: .any :: .any :: .any :: .any :: .any :: .any :: .any :: .any :: .any :: .any :: .any :: .any :: .any :: .any :: .any :: .any :: .any :: .any :: .any :: .any :: .any :: .any :: .any :: .any :: .any :: .any :: .any :: .any :: .any :: .any :: .any :: []))
        (fun k => H0 ++ [rW ((List.replicate (l.length + 1) (-1)).take k ++ (List.replicate (l.length + 1) 0).drop k), .cells 74 effC, .cells 27 [.os H0.length 0 (l.length + 1) (l.length + 1)]]) 0 (Nat.zero_le _) ?_ ?_
      · refine Wk.fgtE ?_ (by (refine fgX ?_; try exact True.intro))
        simp [rW, List.replicate_succ]
      · rintro k k1
        by_cases hk : k = l.length + 1
        · subst hk
          have etake : (List.replicate (l.length + 1) (-1 : Int)).take (l.length + 1) ++ (List.replicate (l.length + 1) (0 : Int)).drop (l.length + 1) = (-1) :: List.replicate l.length (-1) := by simp [List.replicate_succ]
          rw [etake]
          (have ww1 := etake; refine wkO ?_; clear ww1; (repeat' first | exact True.intro | refine Lf.mk ?_ ?_); all_goals intro hP)
          refine awp_loop_ind (σ := Nat × List Int) (fun s => l.length - s.1)
            (fun s => s.1 ≤ l.length ∧ s.2.length = l.length + 1 ∧ HsOk s.2 ∧ hLoop l.length vars l 0 (0 :: List.replicate l.length (-1)) = hLoop l.length vars (l.drop s.1) s.1 s.2)
            (fun s => (.rs 3 (l.map encI) :: .i vars :: .any :: .any :: .any :: .p (H0.length + 1) 0 :: .p (H0.length + 2) 0 :: .any :: (.fn (.func 45) [] [.p (H0.length + 2) 0]) :: .any :: .any :: .any :: .any :: .any :: .any :: .any :: .any :: .any :: .any :: .any :: .any :: .any :: .any :: .any :: .any :: .any :: .any :: .any :: .any :: .any :: .any :: .any :: .rs 3 (l.map encI) :: .i l.length :: .i s.1 :: .any :: .any :: .any :: .any :: .any :: .any :: .any :: .any :: .any :: .any :: .any :: .any :: .any :: .any :: .any :: .any :: .any :: .any :: .any :: .any :: .any :: .any :: .any :: .any :: .any :: .any :: .any :: .any :: .any :: .any :: .any :: .any :: .any :: .any :: .any :: .any :: .any :: .any :: .any :: .any :: .any :: .any :: .any :: .any :: .any :: .any :: .any :: .any :: .any :: .any :: .any :: .any :: .any :: .any :: .any :: .any :: .any :: .any :: .any :: .any :: .any :: .any :: .any :: .any :: .any :: .any :: .any :: .any :: .any :: .any :: .any :: .any :: .any :: .any :: .any :: .any :: .any :: .any :: .any :: []))
            (fun s => H0 ++ [rW s.2, .cells 74 effC, .cells 27 [.os H0.length 0 (l.length + 1) (l.length + 1)]]) (0, 0 :: List.replicate l.length (-1)) ⟨Nat.zero_le _, by simp, HsOk.start _, by simp⟩ ?_ ?_
          · refine Wk.fgtE ?_ (by (refine fgX ?_; try exact True.intro))
            simp [rW, List.take_of_length_le, List.replicate_succ]
          · rintro ⟨i, hs⟩ ⟨h1, h2, h3, h5⟩
            simp only at h1 h2 h3 h5 ⊢
            obtain ⟨y, hy⟩ := get_some (hs := hs) (i := i) (by omega)
            have yb := h3.get hy
            have hy' : (hs.map fun v => [AV.i v])[i]? = some [AV.i y] := by rw [List.getElem?_map, hy]; rfl
            have hil : (i : Int) < (l.length + 1 : Nat) := by omega
            cases hr : l.drop i with
            | nil =>
              have hlt := drop_nil hr
              obtain rfl : i = l.length := by have := List.drop_eq_nil_iff.1 hr; omega
              rw [hr, hLoop_nil hy] at h5
              have hverd : verH l vars = decide (y = 0) := by rw [← h5]; exact verH_eq h4'
              rw [hverd]
              (have rr1 := dr36_14_X11a; have rr2 := dr36_16_X11a; have ww1 := @effC_len; have ww2 := hlt; have ww3 := h2; have ww4 := hil; have ww5 := hy'; have ww6 := @row_set; refine wkO ?_; clear rr1 rr2 ww1 ww2 ww3 ww4 ww5 ww6; (repeat' first | exact True.intro | refine Lf.mk ?_ ?_); all_goals intro hP)
              (refine resX ?_; try exact True.intro)
            | cons x rest =>
              obtain ⟨hx, hlt, hd, hm⟩ := drop_cons hr
              rw [hr, hLoop_cons] at h5
              obtain ⟨op, nn, rel⟩ := x
              have hx' : (l.map encI)[i]? = some (cI ⟨op, nn, rel⟩) := by rw [List.getElem?_map, hx]; rfl
              have hverd := verH_eq (vars := vars) h4'
              rw [h5] at hverd
              rw [hverd]
              have hfit := fun H0 => cfits_run op nn rel i l.length vars (by omega) hv H0
              have hw1 : IntKind.i64.wrap ((i : Int) + 1) = ((i + 1 : Nat) : Int) := by rw [wrap_of (by omega) (by omega)]; omega
              cases hok : insOk ⟨op, nn, rel⟩ i l.length vars with
              | false =>
                rw [hStep_bad hy (.inr (.inl hok))]
                simp only [hok] at hfit
                (have rr1 := dr36_14_X11a; have rr2 := dr36_16_X11a; have ww1 := @effC_len; have ww2 := hlt; have ww3 := h2; have ww4 := hil; have ww5 := hx'; have ww6 := hy'; have ww7 := @row_set; have cc1 := fun z1 => hfit z1; refine wkO ?_; clear rr1 rr2 ww1 ww2 ww3 ww4 ww5 ww6 ww7 cc1; (repeat' first | exact True.intro | refine Lf.mk ?_ ?_); all_goals intro hP)
                all_goals (refine resX ?_; try exact True.intro)
              | true =>
                simp only [hok] at hfit
                have hop := insOk_op hok
                simp only at hop
                have t1 := takes_nn op
                have t2 : takes op ≤ 2 := by unfold takes; repeat' split <;> omega
                have p1 := puts_nn op
                have p2 : puts op ≤ 1 := by unfold puts; split <;> omega
                obtain ⟨he1, he2⟩ := effC_get hop
                have hopl : op < 14 := by omega
                have hop0 : 0 ≤ op := by omega
                have wy1 : IntKind.i64.wrap (y - takes op) = y - takes op := wrap_of (by omega) (by omega)
                have wy2 : IntKind.i64.wrap (y - takes op + puts op) = y - takes op + puts op := wrap_of (by omega) (by omega)
                have hj := insOk_jump hok
                simp only at hj
                have hi1 : ((i + 1 : Nat) : Int) < (l.length + 1 : Nat) := by omega
                have hi2 : i + 1 < hs.length := by omega
                have h2' : ∀ a d, (hs.set a d).length = l.length + 1 := by intro a d; simp [h2]
                have hstep := hStep_ok (len := l.length) (vars := vars) (x := ⟨op, nn, rel⟩) hy hok (by omega) hi2
                simp only at hstep
                repeat' (first | refine awp_seq ?_ | refine awp_block ?_ | refine awp_scope ?_ | ((first | refine awp_region_k fun Kn Kp hn hp => ?_ | show AWP _ _ (Code.region 14 _ true) _ _ _; refine awp_drawn_k (id := 14) [11] [] [.win [0], .win [0], .win [0], .win [0], .win [0], .win [0], .win [0], .win [0], .win [0], .win [0], .win [0], .eff 0, .win [1], .win [1], .win [1], .win [1], .win [1], .win [1], .win [1], .win [1], .win [1], .win [1], .win [1], .win [1], .win [1], .win [1]] 1 rfl (by as_aux_lemma => kernel_rfl) fun Kn Kp hn hp => ?_ | show AWP _ _ (Code.region 16 _ true) _ _ _; refine awp_drawn_k (id := 16) [] [] [.win [0], .win [0], .win [0], .win [0], .win [0], .win [0], .win [0], .win [0], .win [0], .win [0], .win [0], .win [0], .win [0], .win [0], .win [0], .win [0], .win [0]] 0 rfl (by as_aux_lemma => kernel_rfl) fun Kn Kp hn hp => ?_ | refine oge_intro (by assumption) ?_ | (show AWE _ _ _ _ _ _ _ _ _; first | refine awe_intro (hfit _) ?_ | refine awe_intro (reach_runN _ (l.length + 1) h2 nn (by omega) _ 27 (H0.length + 2) H0.length (H0 ++ _) (by simp only [getOk, List.getElem?_cons_succ, List.getElem?_cons_zero]) (getO0 _ _ _) (by omega)) ?_ | refine awe_intro (reach_runN _ (l.length + 1) h2 (i + 1 : Nat) (by omega) _ 27 (H0.length + 2) H0.length (H0 ++ _) (by simp only [getOk, List.getElem?_cons_succ, List.getElem?_cons_zero]) (getO0 _ _ _) (by omega)) ?_ | refine awe_intro (reach_runN _ (l.length + 1) (h2' _ _) (i + 1 : Nat) (by omega) _ 27 (H0.length + 2) H0.length (H0 ++ _) (by simp only [getOk, List.getElem?_cons_succ, List.getElem?_cons_zero]) (getO0 _ _ _) (by omega)) ?_) | (show AWSF _ _ _ _ _ _ _ _ _ _ _; first | refine awsf_intro (hfit _) (fun hrun => ?_) | refine awsf_intro (reach_runN _ (l.length + 1) h2 nn (by omega) _ 27 (H0.length + 2) H0.length (H0 ++ _) (by simp only [getOk, List.getElem?_cons_succ, List.getElem?_cons_zero]) (getO0 _ _ _) (by omega)) (fun hrun => ?_) | refine awsf_intro (reach_runN _ (l.length + 1) h2 (i + 1 : Nat) (by omega) _ 27 (H0.length + 2) H0.length (H0 ++ _) (by simp only [getOk, List.getElem?_cons_succ, List.getElem?_cons_zero]) (getO0 _ _ _) (by omega)) (fun hrun => ?_) | refine awsf_intro (reach_runN _ (l.length + 1) (h2' _ _) (i + 1 : Nat) (by omega) _ 27 (H0.length + 2) H0.length (H0 ++ _) (by simp only [getOk, List.getElem?_cons_succ, List.getElem?_cons_zero]) (getO0 _ _ _) (by omega)) (fun hrun => ?_)) | (show OGE _ _ _ _ _ _ _; first | refine oge_intro (hfit _) ?_ | refine oge_intro (reach_runN _ (l.length + 1) h2 nn (by omega) _ 27 (H0.length + 2) H0.length (H0 ++ _) (by simp only [getOk, List.getElem?_cons_succ, List.getElem?_cons_zero]) (getO0 _ _ _) (by omega)) ?_ | refine oge_intro (reach_runN _ (l.length + 1) h2 (i + 1 : Nat) (by omega) _ 27 (H0.length + 2) H0.length (H0 ++ _) (by simp only [getOk, List.getElem?_cons_succ, List.getElem?_cons_zero]) (getO0 _ _ _) (by omega)) ?_ | refine oge_intro (reach_runN _ (l.length + 1) (h2' _ _) (i + 1 : Nat) (by omega) _ 27 (H0.length + 2) H0.length (H0 ++ _) (by simp only [getOk, List.getElem?_cons_succ, List.getElem?_cons_zero]) (getO0 _ _ _) (by omega)) ?_) | (show AWSE _ _ _ _ _ _ _ _ _ _ _; first | refine awse_intro (hfit _) (fun hrun => ?_) | refine awse_intro (reach_runN _ (l.length + 1) h2 nn (by omega) _ 27 (H0.length + 2) H0.length (H0 ++ _) (by simp only [getOk, List.getElem?_cons_succ, List.getElem?_cons_zero]) (getO0 _ _ _) (by omega)) (fun hrun => ?_) | refine awse_intro (reach_runN _ (l.length + 1) h2 (i + 1 : Nat) (by omega) _ 27 (H0.length + 2) H0.length (H0 ++ _) (by simp only [getOk, List.getElem?_cons_succ, List.getElem?_cons_zero]) (getO0 _ _ _) (by omega)) (fun hrun => ?_) | refine awse_intro (reach_runN _ (l.length + 1) (h2' _ _) (i + 1 : Nat) (by omega) _ 27 (H0.length + 2) H0.length (H0 ++ _) (by simp only [getOk, List.getElem?_cons_succ, List.getElem?_cons_zero]) (getO0 _ _ _) (by omega)) (fun hrun => ?_)) | (show PGE _ _ _ _ _; first | refine pge_intro (hfit _) (fun tm' => ?_) | refine pge_intro (reach_runN _ (l.length + 1) h2 nn (by omega) _ 27 (H0.length + 2) H0.length (H0 ++ _) (by simp only [getOk, List.getElem?_cons_succ, List.getElem?_cons_zero]) (getO0 _ _ _) (by omega)) (fun tm' => ?_) | refine pge_intro (reach_runN _ (l.length + 1) h2 (i + 1 : Nat) (by omega) _ 27 (H0.length + 2) H0.length (H0 ++ _) (by simp only [getOk, List.getElem?_cons_succ, List.getElem?_cons_zero]) (getO0 _ _ _) (by omega)) (fun tm' => ?_) | refine pge_intro (reach_runN _ (l.length + 1) (h2' _ _) (i + 1 : Nat) (by omega) _ 27 (H0.length + 2) H0.length (H0 ++ _) (by simp only [getOk, List.getElem?_cons_succ, List.getElem?_cons_zero]) (getO0 _ _ _) (by omega)) (fun tm' => ?_))) <;> (simp only [go_sem, Nat.reduceAdd, Nat.reduceSub, Nat.reduceMul, Nat.reduceLeDiff, Nat.reduceLT, Nat.reduceEqDiff, Int.reduceToNat, Int.reduceAdd, Int.reduceMul, Int.reduceSub, Int.reduceLT, Int.reduceLE, Int.reduceEq, Int.reduceNeg, Int.reduceBEq, Int.reduceBNe, ↓reduceIte, reduceCtorEq, effC_len, hlt, List.length_map, h2, hil, hx', hy', Option.map_some, row_set, Int.toNat_natCast, hop0, hopl, he1, he2, wy1, wy2, hw1, List.length_set] <;> try simp (disch := omega) only [wrap_of])) | (refine hn _ _ ?_; clear hn hp Kn Kp) | (refine hp _ _ _ ?_; clear hn hp Kn Kp) | (simp (disch := omega) only [getSkip16, setSkip16, getAt1, setAt1, getAt2, setAt2, getAt3, setAt3, getAt4, setAt4, getAt5, setAt5, getAt6, setAt6, getAt7, setAt7, getAt8, setAt8, getAt9, setAt9, getAt10, setAt10, getAt11, setAt11, getAt12, setAt12, getAt13, setAt13, getAt14, setAt14, getAt15, setAt15, go_sem, Nat.reduceAdd, Nat.reduceSub, Nat.reduceMul, Nat.reduceLeDiff, Nat.reduceLT, Nat.reduceEqDiff, Int.reduceToNat, Int.reduceAdd, Int.reduceMul, Int.reduceSub, Int.reduceLT, Int.reduceLE, Int.reduceEq, Int.reduceNeg, Int.reduceBEq, Int.reduceBNe, ↓reduceIte, reduceCtorEq, effC_len, hlt, List.length_map, h2, hil, hx', hy', Option.map_some, row_set, Int.toNat_natCast, hop0, hopl, he1, he2, wy1, wy2, hw1, List.length_set, if_pos, if_neg, decide_pos', decide_neg', beq_pos', beq_neg', bne_pos', bne_neg', getE, wrap_of]) | (refine awp_cond_t rfl (by first | with_reducible rfl | (simp only [Bool.and_eq_true, Bool.or_eq_true, Bool.and_eq_false_iff, Bool.or_eq_false_iff, decide_eq_true_eq, decide_eq_false_iff_not, beq_iff_eq, bne_iff_ne, bne_eq_false_iff_eq, beq_eq_false_iff_ne, ne_eq, Bool.not_eq_true', Bool.not_eq_false', not_true_eq_false, not_false_eq_true]; omega)) ?_) | (refine awp_cond_f rfl (by first | with_reducible rfl | (simp only [Bool.and_eq_true, Bool.or_eq_true, Bool.and_eq_false_iff, Bool.or_eq_false_iff, decide_eq_true_eq, decide_eq_false_iff_not, beq_iff_eq, bne_iff_ne, bne_eq_false_iff_eq, beq_eq_false_iff_ne, ne_eq, Bool.not_eq_true', Bool.not_eq_false', not_true_eq_false, not_false_eq_true]; omega)) ?_) | (refine awp_cond rfl (fun hb => ?_) (fun hb => ?_) <;> (try simp only [decide_eq_true_eq, decide_eq_false_iff_not, Bool.not_eq_true', Bool.not_eq_false', Bool.true_eq_false, Bool.false_eq_true, beq_iff_eq, bne_iff_ne, Bool.or_eq_true, Bool.and_eq_true, Bool.or_eq_false_iff, Bool.and_eq_false_iff, bne_eq_false_iff_eq, beq_eq_false_iff_ne, gt_iff_lt, ge_iff_le, Int.reduceEq, Int.reduceNe, Int.reduceLT, Int.reduceLE, ne_eq, not_true_eq_false, not_false_eq_true] at hb)) | ((first | refine awg_split (fun hb => ?_) (fun hb => ?_) | refine awsg_split (fun hb => ?_) (fun hb => ?_)) <;> have hb0 := hb <;> (try simp only [decide_eq_true_eq, decide_eq_false_iff_not, Bool.not_eq_true', Bool.not_eq_false', Bool.true_eq_false, Bool.false_eq_true, beq_iff_eq, bne_iff_ne, Bool.or_eq_true, Bool.and_eq_true, Bool.or_eq_false_iff, Bool.and_eq_false_iff, bne_eq_false_iff_eq, beq_eq_false_iff_ne, gt_iff_lt, ge_iff_le, Int.reduceEq, Int.reduceNe, Int.reduceLT, Int.reduceLE, ne_eq, not_true_eq_false, not_false_eq_true] at hb0) <;> (try simp only [beq_true, beq_false, Bool.not_eq_true', Bool.not_eq_false'] at hb) <;> (simp only [go_sem, Nat.reduceAdd, Nat.reduceSub, Nat.reduceMul, Nat.reduceLeDiff, Nat.reduceLT, Nat.reduceEqDiff, Int.reduceToNat, Int.reduceAdd, Int.reduceMul, Int.reduceSub, Int.reduceLT, Int.reduceLE, Int.reduceEq, Int.reduceNeg, Int.reduceBEq, Int.reduceBNe, ↓reduceIte, reduceCtorEq, effC_len, hlt, List.length_map, h2, hil, hx', hy', Option.map_some, row_set, Int.toNat_natCast, hop0, hopl, he1, he2, wy1, wy2, hw1, List.length_set, hb, hb0] <;> try simp (disch := omega) only [wrap_of])) | (refine And.intro ?_ ?_) | refine awp_skip ?_ | refine awp_ret ?_ | refine awp_exit ?_ | refine awp_label ?_ | refine awloop_step ?_ | fail)
                all_goals first
                  | ((refine resX ?_; try exact True.intro); rw [hstep]; simp (disch := omega) only [if_pos, if_neg])
                  | (refine ⟨(i + 1, (hs.set nn.toNat (y - takes op + puts op)).set (i + 1) (y - takes op + puts op)), by simp only; omega, ⟨by simp only; omega, by simp only [List.length_set]; exact h2, (h3.set _ (by omega)).set _ (by omega), by simp only; rw [h5, hstep, ← hd]; simp (disch := omega) only [if_pos, if_neg]⟩, ?_⟩; refine Wk.keepE 3 1 rfl (by simp) (by intro o ho; simp only [List.mem_cons, List.not_mem_nil, or_false] at ho; rcases ho with rfl | rfl | rfl <;> (first | exact row_under | exact effC_under | exact hdr_under)) ?_; simp only [List.map_cons, List.map_nil, AV.low, Fgt, Nat.lt_add_one, if_true, true_or, or_true, and_true, true_and, Nat.add_lt_add_iff_left, Nat.reduceLT])
                  | (refine ⟨(i + 1, hs.set nn.toNat (y - takes op + puts op)), by simp only; omega, ⟨by simp only; omega, by simp only [List.length_set]; exact h2, h3.set _ (by omega), by simp only; rw [h5, hstep, ← hd]; simp (disch := omega) only [if_pos, if_neg]⟩, ?_⟩; refine Wk.keepE 3 1 rfl (by simp) (by intro o ho; simp only [List.mem_cons, List.not_mem_nil, or_false] at ho; rcases ho with rfl | rfl | rfl <;> (first | exact row_under | exact effC_under | exact hdr_under)) ?_; simp only [List.map_cons, List.map_nil, AV.low, Fgt, Nat.lt_add_one, if_true, true_or, or_true, and_true, true_and, Nat.add_lt_add_iff_left, Nat.reduceLT])
                  | (refine ⟨(i + 1, hs.set (i + 1) (y - takes op + puts op)), by simp only; omega, ⟨by simp only; omega, by simp only [List.length_set]; exact h2, h3.set _ (by omega), by simp only; rw [h5, hstep, ← hd]; simp (disch := omega) only [if_pos, if_neg]⟩, ?_⟩; refine Wk.keepE 3 1 rfl (by simp) (by intro o ho; simp only [List.mem_cons, List.not_mem_nil, or_false] at ho; rcases ho with rfl | rfl | rfl <;> (first | exact row_under | exact effC_under | exact hdr_under)) ?_; simp only [List.map_cons, List.map_nil, AV.low, Fgt, Nat.lt_add_one, if_true, true_or, or_true, and_true, true_and, Nat.add_lt_add_iff_left, Nat.reduceLT])
        · have hki : (k : Int) < (l.length + 1 : Nat) := by omega
          have hw : IntKind.i64.wrap ((k : Int) + 1) = ((k + 1 : Nat) : Int) := by rw [wrap_of (by omega) (by omega)]; omega
          have hlen : ((List.replicate (l.length + 1) (-1 : Int)).take k ++ (List.replicate (l.length + 1) (0 : Int)).drop k).length = l.length + 1 := by simp; omega
          have hfill := fill_step (A := List.replicate (l.length + 1) (-1 : Int)) (B := List.replicate (l.length + 1) (0 : Int)) (by simp) (k := k) (x := -1) (by rw [List.getElem?_replicate, if_pos (by omega)])
          generalize hg : (List.replicate (l.length + 1) (-1 : Int)).take k ++ (List.replicate (l.length + 1) (0 : Int)).drop k = row at *
          obtain ⟨z, hz⟩ := get_some (hs := row) (i := k) (by omega)
          have hz' : (row.map fun v => [AV.i v])[k]? = some [AV.i z] := by rw [List.getElem?_map, hz]; rfl
          (have ww1 := hw; have ww2 := hlen; have ww3 := hz'; have ww4 := @row_set; refine wkO ?_; clear ww1 ww2 ww3 ww4; (repeat' first | exact True.intro | refine Lf.mk ?_ ?_); all_goals intro hP)
          refine ⟨k + 1, by omega, by omega, ?_⟩
          simp only [List.replicate_succ] at hfill
          refine Wk.keepE 3 1 (by rw [← hfill]; simp only [rW, List.map_set]; rfl) (by simp) (by intro o ho; simp only [List.mem_cons, List.not_mem_nil, or_false] at ho; rcases ho with rfl | rfl | rfl <;> (first | exact row_under | exact effC_under | exact hdr_under)) ?_
          simp only [List.map_cons, List.map_nil, AV.low, Fgt, Nat.lt_add_one, if_true, true_or, or_true, and_true, true_and, Nat.add_lt_add_iff_left, Nat.reduceLT]
    · simp only [List.forall_mem_cons, List.not_mem_nil, false_implies, implies_true, and_true, go_sem, Nat.reduceAdd, Nat.reduceSub, Nat.reduceMul, Nat.reduceLeDiff, Nat.reduceLT, Nat.reduceEqDiff, Int.reduceToNat, Int.reduceAdd, Int.reduceMul, Int.reduceSub, Int.reduceLT, Int.reduceLE, Int.reduceEq, Int.reduceNeg, Int.reduceBEq, Int.reduceBNe, ↓reduceIte, reduceCtorEq, pick, List.length_map, w1, hk1, hk2, Int.le_refl, List.length_replicate]
      (have rr1 := dr36_14_X11a; have rr2 := dr36_16_X11a; have ww1 := w1; have ww2 := hk1; have ww3 := hk2; have ww4 := and_self; have cc1 := fun z1 => heff z1; refine wkS ?_; clear rr1 rr2 ww1 ww2 ww3 ww4 cc1; (repeat' first | exact True.intro | refine Lf.mk ?_ ?_); all_goals intro hP)
      all_goals (first | ((refine hW _ _ (Wk.perm0 [0, 1, 2] (by decide) ?_ ?_)) <;> (simp only [PermL, FgtR, AObj.ren, AV.ren, AV.under, AObj.under, AL.perm_0, AL.perm_k, List.map_cons, List.map_nil, List.map_map, List.map_replicate, List.replicate_succ, List.getD_cons_zero, List.getD_cons_succ, List.getElem?_cons_zero, List.getElem?_cons_succ, List.length_cons, List.length_nil, Nat.add_zero, Nat.zero_add, Nat.reduceAdd, Nat.add_lt_add_iff_left, Nat.reduceLT, Nat.lt_add_right_iff_pos, List.forall_mem_cons, List.mem_cons, List.not_mem_nil, forall_eq_or_imp, forall_eq, false_implies, implies_true, reduceCtorEq, false_or, true_or, or_true, and_true, true_and, and_self, List.forall_mem_map, List.mem_map, forall_exists_index, and_imp, forall_apply_eq_imp_iff₂, Function.comp_def, List.mem_replicate, ne_eq, effC, effP]) <;> (first | (intro a _ ha c hc; subst ha; simp only [List.mem_singleton] at hc; subst hc; simp only [AV.under]))) | ((refine hW _ _ (Wk.perm0 [0, 2, 1] (by decide) ?_ ?_)) <;> (simp only [PermL, FgtR, AObj.ren, AV.ren, AV.under, AObj.under, AL.perm_0, AL.perm_k, List.map_cons, List.map_nil, List.map_map, List.map_replicate, List.replicate_succ, List.getD_cons_zero, List.getD_cons_succ, List.getElem?_cons_zero, List.getElem?_cons_succ, List.length_cons, List.length_nil, Nat.add_zero, Nat.zero_add, Nat.reduceAdd, Nat.add_lt_add_iff_left, Nat.reduceLT, Nat.lt_add_right_iff_pos, List.forall_mem_cons, List.mem_cons, List.not_mem_nil, forall_eq_or_imp, forall_eq, false_implies, implies_true, reduceCtorEq, false_or, true_or, or_true, and_true, true_and, and_self, List.forall_mem_map, List.mem_map, forall_exists_index, and_imp, forall_apply_eq_imp_iff₂, Function.comp_def, List.mem_replicate, ne_eq, effC, effP]) <;> (first | (intro a _ ha c hc; subst ha; simp only [List.mem_singleton] at hc; subst hc; simp only [AV.under]))) | ((refine hW _ _ (Wk.perm0 [1, 0, 2] (by decide) ?_ ?_)) <;> (simp only [PermL, FgtR, AObj.ren, AV.ren, AV.under, AObj.under, AL.perm_0, AL.perm_k, List.map_cons, List.map_nil, List.map_map, List.map_replicate, List.replicate_succ, List.getD_cons_zero, List.getD_cons_succ, List.getElem?_cons_zero, List.getElem?_cons_succ, List.length_cons, List.length_nil, Nat.add_zero, Nat.zero_add, Nat.reduceAdd, Nat.add_lt_add_iff_left, Nat.reduceLT, Nat.lt_add_right_iff_pos, List.forall_mem_cons, List.mem_cons, List.not_mem_nil, forall_eq_or_imp, forall_eq, false_implies, implies_true, reduceCtorEq, false_or, true_or, or_true, and_true, true_and, and_self, List.forall_mem_map, List.mem_map, forall_exists_index, and_imp, forall_apply_eq_imp_iff₂, Function.comp_def, List.mem_replicate, ne_eq, effC, effP]) <;> (first | (intro a _ ha c hc; subst ha; simp only [List.mem_singleton] at hc; subst hc; simp only [AV.under]))) | ((refine hW _ _ (Wk.perm0 [1, 2, 0] (by decide) ?_ ?_)) <;> (simp only [PermL, FgtR, AObj.ren, AV.ren, AV.under, AObj.under, AL.perm_0, AL.perm_k, List.map_cons, List.map_nil, List.map_map, List.map_replicate, List.replicate_succ, List.getD_cons_zero, List.getD_cons_succ, List.getElem?_cons_zero, List.getElem?_cons_succ, List.length_cons, List.length_nil, Nat.add_zero, Nat.zero_add, Nat.reduceAdd, Nat.add_lt_add_iff_left, Nat.reduceLT, Nat.lt_add_right_iff_pos, List.forall_mem_cons, List.mem_cons, List.not_mem_nil, forall_eq_or_imp, forall_eq, false_implies, implies_true, reduceCtorEq, false_or, true_or, or_true, and_true, true_and, and_self, List.forall_mem_map, List.mem_map, forall_exists_index, and_imp, forall_apply_eq_imp_iff₂, Function.comp_def, List.mem_replicate, ne_eq, effC, effP]) <;> (first | (intro a _ ha c hc; subst ha; simp only [List.mem_singleton] at hc; subst hc; simp only [AV.under]))) | ((refine hW _ _ (Wk.perm0 [2, 0, 1] (by decide) ?_ ?_)) <;> (simp only [PermL, FgtR, AObj.ren, AV.ren, AV.under, AObj.under, AL.perm_0, AL.perm_k, List.map_cons, List.map_nil, List.map_map, List.map_replicate, List.replicate_succ, List.getD_cons_zero, List.getD_cons_succ, List.getElem?_cons_zero, List.getElem?_cons_succ, List.length_cons, List.length_nil, Nat.add_zero, Nat.zero_add, Nat.reduceAdd, Nat.add_lt_add_iff_left, Nat.reduceLT, Nat.lt_add_right_iff_pos, List.forall_mem_cons, List.mem_cons, List.not_mem_nil, forall_eq_or_imp, forall_eq, false_implies, implies_true, reduceCtorEq, false_or, true_or, or_true, and_true, true_and, and_self, List.forall_mem_map, List.mem_map, forall_exists_index, and_imp, forall_apply_eq_imp_iff₂, Function.comp_def, List.mem_replicate, ne_eq, effC, effP]) <;> (first | (intro a _ ha c hc; subst ha; simp only [List.mem_singleton] at hc; subst hc; simp only [AV.under]))) | ((refine hW _ _ (Wk.perm0 [2, 1, 0] (by decide) ?_ ?_)) <;> (simp only [PermL, FgtR, AObj.ren, AV.ren, AV.under, AObj.under, AL.perm_0, AL.perm_k, List.map_cons, List.map_nil, List.map_map, List.map_replicate, List.replicate_succ, List.getD_cons_zero, List.getD_cons_succ, List.getElem?_cons_zero, List.getElem?_cons_succ, List.length_cons, List.length_nil, Nat.add_zero, Nat.zero_add, Nat.reduceAdd, Nat.add_lt_add_iff_left, Nat.reduceLT, Nat.lt_add_right_iff_pos, List.forall_mem_cons, List.mem_cons, List.not_mem_nil, forall_eq_or_imp, forall_eq, false_implies, implies_true, reduceCtorEq, false_or, true_or, or_true, and_true, true_and, and_self, List.forall_mem_map, List.mem_map, forall_exists_index, and_imp, forall_apply_eq_imp_iff₂, Function.comp_def, List.mem_replicate, ne_eq, effC, effP]) <;> (first | (intro a _ ha c hc; subst ha; simp only [List.mem_singleton] at hc; subst hc; simp only [AV.under]))))
end Go.Proofs.YtimmncjdknlegaaDoor.Y

set_option maxHeartbeats 8000000
set_option maxRecDepth 20000
set_option linter.unusedVariables false
set_option linter.unusedSimpArgs false
set_option linter.unusedSectionVars false
namespace Go.Proofs.YtimmncjdknlegaaDoor.Y
open Go.Proofs.YtimmncjdknlegaaDoor.AL Go.Proofs Go
attribute [local irreducible] AWP AWL AWG AWR AWE AWX AWO AWSeq AWSG AWSR AWSO AWSE AWSF GoodP OGW OGR OGE OGX PGW PGR PGE Wk AWLoop AWPD AWLD

theorem RValue_run (n : Int) (H0 : List AObj) : ARun Tryd.prog 25 [.i n] H0 (.ret (.b (decide (-1000000000000 ≤ n) && decide (n ≤ 1000000000000))) H0) := by
  by_cases h1 : -1000000000000 ≤ n
  · (refine ARun.intro Tryd.func25 rfl Tryd.call25 Tryd.ntmps25 Tryd.results25 ?_; simp only [List.length_cons, List.length_nil, List.length_map, Nat.reduceAdd, Nat.reduceSub, List.replicate_succ, List.replicate_zero, List.cons_append, List.nil_append])
    (have ww1 := h1; refine wk ?_; clear ww1; (repeat' first | exact True.intro | refine Lf.mk ?_ ?_); all_goals intro hP)
    (refine resX ?_; try exact True.intro)
    simp [h1]
  · (refine ARun.intro Tryd.func25 rfl Tryd.call25 Tryd.ntmps25 Tryd.results25 ?_; simp only [List.length_cons, List.length_nil, List.length_map, Nat.reduceAdd, Nat.reduceSub, List.replicate_succ, List.replicate_zero, List.cons_append, List.nil_append])
    (have ww1 := h1; refine wk ?_; clear ww1; (repeat' first | exact True.intro | refine Lf.mk ?_ ?_); all_goals intro hP)
    (refine resX ?_; try exact True.intro)
    simp [h1]
theorem RDown_run (a b : Int) (ha : isV a) (hb' : b ≠ 0) (H0 : List AObj) : ARun Tryd.prog 43 [.i a, .i b] H0 (.ret (.i (downS a b)) H0) := by
  have h1 := tdiv_bd ha hb'
  have w1 : IntKind.i64.wrap (a.tdiv b) = a.tdiv b := wrap_of (by omega) (by omega)
  have w2 : IntKind.i64.wrap (a.tdiv b - 1) = a.tdiv b - 1 := wrap_of (by omega) (by omega)
  unfold downS
  by_cases hm : a.tmod b = 0
  · have hm' : (a.tmod b != 0) = false := by simp [hm]
    (refine ARun.intro Tryd.func43 rfl Tryd.call43 Tryd.ntmps43 Tryd.results43 ?_; simp only [List.length_cons, List.length_nil, List.length_map, Nat.reduceAdd, Nat.reduceSub, List.replicate_succ, List.replicate_zero, List.cons_append, List.nil_append])
    (have ww1 := hb'; have ww2 := hm'; have ww3 := w1; refine wk ?_; clear ww1 ww2 ww3; (repeat' first | exact True.intro | refine Lf.mk ?_ ?_); all_goals intro hP)
    (refine resX ?_; try exact True.intro)
    simp [hm]
  · have hm' : (a.tmod b != 0) = true := by simpa using hm
    cases hd : (decide (a < 0) == decide (b < 0)) with
    | true =>
      have hd' : (decide (a < 0) != decide (b < 0)) = false := by simp only [bne, hd]; rfl
      (refine ARun.intro Tryd.func43 rfl Tryd.call43 Tryd.ntmps43 Tryd.results43 ?_; simp only [List.length_cons, List.length_nil, List.length_map, Nat.reduceAdd, Nat.reduceSub, List.replicate_succ, List.replicate_zero, List.cons_append, List.nil_append])
      (have ww1 := hb'; have ww2 := hm'; have ww3 := hd; have ww4 := w1; refine wk ?_; clear ww1 ww2 ww3 ww4; (repeat' first | exact True.intro | refine Lf.mk ?_ ?_); all_goals intro hP)
      (refine resX ?_; try exact True.intro)
      all_goals simp only [hd', Bool.false_eq_true, and_false, if_false]
    | false =>
      have hd' : (decide (a < 0) != decide (b < 0)) = true := by simp only [bne, hd]; rfl
      (refine ARun.intro Tryd.func43 rfl Tryd.call43 Tryd.ntmps43 Tryd.results43 ?_; simp only [List.length_cons, List.length_nil, List.length_map, Nat.reduceAdd, Nat.reduceSub, List.replicate_succ, List.replicate_zero, List.cons_append, List.nil_append])
      (have ww1 := hb'; have ww2 := hm'; have ww3 := hd; have ww4 := w1; have ww5 := w2; refine wk ?_; clear ww1 ww2 ww3 ww4 ww5; (repeat' first | exact True.intro | refine Lf.mk ?_ ?_); all_goals intro hP)
      (refine resX ?_; try exact True.intro)
      all_goals simp only [hd', hm, ne_eq, not_false_eq_true, and_self, if_true]
theorem RHolds_run (a rel b : Int) (hr : 1 ≤ rel ∧ rel ≤ 6) (H0 : List AObj) : ARun Tryd.prog 31 [.i rel, .i a, .i b] H0 (.ret (.b (holdsS a rel b)) H0) := by
  have hc : rel = 1 ∨ rel = 2 ∨ rel = 3 ∨ rel = 4 ∨ rel = 5 ∨ rel = 6 := by omega
  clear hr
  rcases hc with rfl | rfl | rfl | rfl | rfl | rfl
  all_goals
    (refine ARun.intro Tryd.func31 rfl Tryd.call31 Tryd.ntmps31 Tryd.results31 ?_; simp only [List.length_cons, List.length_nil, List.length_map, Nat.reduceAdd, Nat.reduceSub, List.replicate_succ, List.replicate_zero, List.cons_append, List.nil_append])
    (refine wk ?_; (repeat' first | exact True.intro | refine Lf.mk ?_ ?_); all_goals intro hP)
    (refine resX ?_; try exact True.intro)
    all_goals simp [holdsS]
theorem Rabs_run (n : Int) (hn' : -4000000000000000000 ≤ n ∧ n ≤ 4000000000000000000) (H0 : List AObj) : ARun Tryd.prog 49 [.i n] H0 (.ret (.i (if n < -n then -n else n)) H0) := by
  have w1 : IntKind.i64.wrap (-n) = -n := wrap_of (by omega) (by omega)
  (refine ARun.intro Tryd.func49 rfl Tryd.call49 Tryd.ntmps49 Tryd.results49 ?_; simp only [List.length_cons, List.length_nil, List.length_map, Nat.reduceAdd, Nat.reduceSub, List.replicate_succ, List.replicate_zero, List.cons_append, List.nil_append])
  (have ww1 := w1; refine wk ?_; clear ww1; (repeat' first | exact True.intro | refine Lf.mk ?_ ?_); all_goals intro hP)
  (refine resX ?_; try exact True.intro)
theorem RTakes_run (op : Int) (hop : 1 ≤ op ∧ op ≤ 13) (H0 : List AObj) : ARun Tryd.prog 34 [.i op] H0 (.ret (.tup [.i (takes op), .i (puts op)]) H0) := by
  by_cases h1 : op = 1
  · subst h1
    (refine ARun.intro Tryd.func34 rfl Tryd.call34 Tryd.ntmps34 Tryd.results34 ?_; simp only [List.length_cons, List.length_nil, List.length_map, Nat.reduceAdd, Nat.reduceSub, List.replicate_succ, List.replicate_zero, List.cons_append, List.nil_append])
    (refine wk ?_; (repeat' first | exact True.intro | refine Lf.mk ?_ ?_); all_goals intro hP)
    (refine resX ?_; try exact True.intro)
  by_cases h2 : op = 2
  · subst h2
    (refine ARun.intro Tryd.func34 rfl Tryd.call34 Tryd.ntmps34 Tryd.results34 ?_; simp only [List.length_cons, List.length_nil, List.length_map, Nat.reduceAdd, Nat.reduceSub, List.replicate_succ, List.replicate_zero, List.cons_append, List.nil_append])
    (refine wk ?_; (repeat' first | exact True.intro | refine Lf.mk ?_ ?_); all_goals intro hP)
    (refine resX ?_; try exact True.intro)
  by_cases h3 : op = 3
  · subst h3
    (refine ARun.intro Tryd.func34 rfl Tryd.call34 Tryd.ntmps34 Tryd.results34 ?_; simp only [List.length_cons, List.length_nil, List.length_map, Nat.reduceAdd, Nat.reduceSub, List.replicate_succ, List.replicate_zero, List.cons_append, List.nil_append])
    (refine wk ?_; (repeat' first | exact True.intro | refine Lf.mk ?_ ?_); all_goals intro hP)
    (refine resX ?_; try exact True.intro)
  by_cases h11 : op = 11
  · subst h11
    (refine ARun.intro Tryd.func34 rfl Tryd.call34 Tryd.ntmps34 Tryd.results34 ?_; simp only [List.length_cons, List.length_nil, List.length_map, Nat.reduceAdd, Nat.reduceSub, List.replicate_succ, List.replicate_zero, List.cons_append, List.nil_append])
    (refine wk ?_; (repeat' first | exact True.intro | refine Lf.mk ?_ ?_); all_goals intro hP)
    (refine resX ?_; try exact True.intro)
  by_cases h12 : op = 12
  · subst h12
    (refine ARun.intro Tryd.func34 rfl Tryd.call34 Tryd.ntmps34 Tryd.results34 ?_; simp only [List.length_cons, List.length_nil, List.length_map, Nat.reduceAdd, Nat.reduceSub, List.replicate_succ, List.replicate_zero, List.cons_append, List.nil_append])
    (refine wk ?_; (repeat' first | exact True.intro | refine Lf.mk ?_ ?_); all_goals intro hP)
    (refine resX ?_; try exact True.intro)
  by_cases h13 : op = 13
  · subst h13
    (refine ARun.intro Tryd.func34 rfl Tryd.call34 Tryd.ntmps34 Tryd.results34 ?_; simp only [List.length_cons, List.length_nil, List.length_map, Nat.reduceAdd, Nat.reduceSub, List.replicate_succ, List.replicate_zero, List.cons_append, List.nil_append])
    (refine wk ?_; (repeat' first | exact True.intro | refine Lf.mk ?_ ?_); all_goals intro hP)
    (refine resX ?_; try exact True.intro)
  have e1 : (op == 1) = false := by simpa using h1
  have e2 : (op == 2) = false := by simpa using h2
  have e3 : (op == 3) = false := by simpa using h3
  have e11 : (op == 11) = false := by simpa using h11
  have e12 : (op == 12) = false := by simpa using h12
  have e13 : (op == 13) = false := by simpa using h13
  (refine ARun.intro Tryd.func34 rfl Tryd.call34 Tryd.ntmps34 Tryd.results34 ?_; simp only [List.length_cons, List.length_nil, List.length_map, Nat.reduceAdd, Nat.reduceSub, List.replicate_succ, List.replicate_zero, List.cons_append, List.nil_append])
  (have ww1 := e1; have ww2 := e2; have ww3 := e3; have ww4 := e11; have ww5 := e12; have ww6 := e13; refine wk ?_; clear ww1 ww2 ww3 ww4 ww5 ww6; (repeat' first | exact True.intro | refine Lf.mk ?_ ?_); all_goals intro hP)
  (refine resX ?_; try exact True.intro)
  all_goals simp [takes, puts, h1, h2, h3, h11, h12, h13]
theorem RProduct_run (a b : Int) (ha : isV a) (hb' : isV b) (H0 : List AObj) : ARun Tryd.prog 42 [.i a, .i b] H0 (.ret (.i (prodS a b)) H0) := by
  by_cases h0 : a = 0
  · subst h0
    have w1 : IntKind.i64.wrap (0 * b) = 0 := by rw [Int.zero_mul]; rfl
    (refine ARun.intro Tryd.func42 rfl Tryd.call42 Tryd.ntmps42 Tryd.results42 ?_; simp only [List.length_cons, List.length_nil, List.length_map, Nat.reduceAdd, Nat.reduceSub, List.replicate_succ, List.replicate_zero, List.cons_append, List.nil_append])
    (have ww1 := w1; refine wk ?_; clear ww1; (repeat' first | exact True.intro | refine Lf.mk ?_ ?_); all_goals intro hP)
    (refine resX ?_; try exact True.intro)
    all_goals simp [prodS]
  · have h0' : (a != 0) = true := by simpa using h0
    have hm0 : ¬ (if a < -a then -a else a) = 0 := by split <;> omega
    have hp : 0 < (if a < -a then -a else a) := by split <;> omega
    have ca := fun H0 => Rabs_run a ⟨by omega, by omega⟩ H0
    have cb := fun H0 => Rabs_run b ⟨by omega, by omega⟩ H0
    generalize hm : (if a < -a then -a else a) = m at hm0 hp ca
    have b2 := tdiv_bd (a := 1000000000000) (b := m) ⟨by omega, by omega⟩ hm0
    have w3 : IntKind.i64.wrap ((1000000000000 : Int).tdiv m) = (1000000000000 : Int).tdiv m := wrap_of (by omega) (by omega)
    have e2 : (-1000000000000 : Int).tdiv m = -((1000000000000 : Int).tdiv m) := Int.neg_tdiv _ _
    by_cases hbd : b < (-1000000000000 : Int).tdiv m ∨ (1000000000000 : Int).tdiv m < b
    · have hg : (1000000000000 : Int).tdiv m < (if b < -b then -b else b) := by rw [e2] at hbd; split <;> omega
      generalize (if b < -b then -b else b) = m2 at hg cb
      (refine ARun.intro Tryd.func42 rfl Tryd.call42 Tryd.ntmps42 Tryd.results42 ?_; simp only [List.length_cons, List.length_nil, List.length_map, Nat.reduceAdd, Nat.reduceSub, List.replicate_succ, List.replicate_zero, List.cons_append, List.nil_append])
      (have ww1 := h0'; have ww2 := hm0; have ww3 := w3; have ww4 := hg; have cc1 := fun z1 => cb z1; have cc2 := fun z1 => ca z1; refine wk ?_; clear ww1 ww2 ww3 ww4 cc1 cc2; (repeat' first | exact True.intro | refine Lf.mk ?_ ?_); all_goals intro hP)
      (refine resX ?_; try exact True.intro)
      all_goals rw [prodS_out h0 hm hbd]
    · have hd1 : (-1000000000000 : Int).tdiv m ≤ b := Int.not_lt.1 fun h => hbd (.inl h)
      have hd2 : b ≤ (1000000000000 : Int).tdiv m := Int.not_lt.1 fun h => hbd (.inr h)
      have hg : ¬ (1000000000000 : Int).tdiv m < (if b < -b then -b else b) := by rw [e2] at hd1; split <;> omega
      have hmul := prod_fits hm hp hd1 hd2
      generalize (if b < -b then -b else b) = m2 at hg cb
      have w4 : IntKind.i64.wrap (a * b) = a * b := wrap_of (by omega) (by omega)
      (refine ARun.intro Tryd.func42 rfl Tryd.call42 Tryd.ntmps42 Tryd.results42 ?_; simp only [List.length_cons, List.length_nil, List.length_map, Nat.reduceAdd, Nat.reduceSub, List.replicate_succ, List.replicate_zero, List.cons_append, List.nil_append])
      (have ww1 := h0'; have ww2 := hm0; have ww3 := w3; have ww4 := w4; have ww5 := hg; have cc1 := fun z1 => cb z1; have cc2 := fun z1 => ca z1; refine wk ?_; clear ww1 ww2 ww3 ww4 ww5 cc1 cc2; (repeat' first | exact True.intro | refine Lf.mk ?_ ?_); all_goals intro hP)
      (refine resX ?_; try exact True.intro)
      all_goals rw [prodS_in h0 hm hbd]
end Go.Proofs.YtimmncjdknlegaaDoor.Y

set_option maxHeartbeats 8000000
set_option maxRecDepth 20000
set_option linter.unusedVariables false
set_option linter.unusedSimpArgs false
set_option linter.unusedSectionVars false
namespace Go.Proofs.YtimmncjdknlegaaDoor.Y
open Go.Proofs.YtimmncjdknlegaaDoor.AL Go.Proofs Go
attribute [local irreducible] AWP AWL AWG AWR AWE AWX AWO AWSeq AWSG AWSR AWSO AWSE AWSF GoodP OGW OGR OGE OGX PGW PGR PGE Wk AWLoop AWPD AWLD

theorem Rinstr_run (op nn rel i len vars : Int) (H0 : List AObj) :
    ARun Tryd.prog 33 [.agg [.i op, .i nn, .i rel], .i i, .i len, .i vars] H0 (.ret (.b (insOk ⟨op, nn, rel⟩ i len vars)) H0) := by
  by_cases h1 : op = 1
  · subst h1
    by_cases hr : rel = 0
    · subst hr
      by_cases hl : -1000000000000 ≤ nn
      · (refine ARun.intro Tryd.func33 rfl Tryd.call33 Tryd.ntmps33 Tryd.results33 ?_; simp only [List.length_cons, List.length_nil, List.length_map, Nat.reduceAdd, Nat.reduceSub, List.replicate_succ, List.replicate_zero, List.cons_append, List.nil_append])
        (have ww1 := hl; refine wk ?_; clear ww1; (repeat' first | exact True.intro | refine Lf.mk ?_ ?_); all_goals intro hP)
        (refine resX ?_; try exact True.intro)
        all_goals simp [insOk, hl]
        all_goals (try first | rfl | omega | (rw [Bool.eq_iff_iff]; simp; omega))
      · (refine ARun.intro Tryd.func33 rfl Tryd.call33 Tryd.ntmps33 Tryd.results33 ?_; simp only [List.length_cons, List.length_nil, List.length_map, Nat.reduceAdd, Nat.reduceSub, List.replicate_succ, List.replicate_zero, List.cons_append, List.nil_append])
        (have ww1 := hl; refine wk ?_; clear ww1; (repeat' first | exact True.intro | refine Lf.mk ?_ ?_); all_goals intro hP)
        (refine resX ?_; try exact True.intro)
        all_goals simp [insOk, hl]
        all_goals (try first | rfl | omega | (rw [Bool.eq_iff_iff]; simp; omega))
    · have hr' : (rel != 0) = true := by simpa using hr
      (refine ARun.intro Tryd.func33 rfl Tryd.call33 Tryd.ntmps33 Tryd.results33 ?_; simp only [List.length_cons, List.length_nil, List.length_map, Nat.reduceAdd, Nat.reduceSub, List.replicate_succ, List.replicate_zero, List.cons_append, List.nil_append])
      (have ww1 := hr'; refine wk ?_; clear ww1; (repeat' first | exact True.intro | refine Lf.mk ?_ ?_); all_goals intro hP)
      (refine resX ?_; try exact True.intro)
      all_goals simp [insOk, hr]
      all_goals (try first | rfl | omega | (rw [Bool.eq_iff_iff]; simp; omega))
  by_cases h2 : op = 2
  · subst h2
    by_cases hr : rel = 0
    · subst hr
      by_cases hl : 0 ≤ nn
      · (refine ARun.intro Tryd.func33 rfl Tryd.call33 Tryd.ntmps33 Tryd.results33 ?_; simp only [List.length_cons, List.length_nil, List.length_map, Nat.reduceAdd, Nat.reduceSub, List.replicate_succ, List.replicate_zero, List.cons_append, List.nil_append])
        (have ww1 := hl; refine wk ?_; clear ww1; (repeat' first | exact True.intro | refine Lf.mk ?_ ?_); all_goals intro hP)
        (refine resX ?_; try exact True.intro)
        all_goals simp [insOk, hl]
        all_goals (try first | rfl | omega | (rw [Bool.eq_iff_iff]; simp; omega))
      · (refine ARun.intro Tryd.func33 rfl Tryd.call33 Tryd.ntmps33 Tryd.results33 ?_; simp only [List.length_cons, List.length_nil, List.length_map, Nat.reduceAdd, Nat.reduceSub, List.replicate_succ, List.replicate_zero, List.cons_append, List.nil_append])
        (have ww1 := hl; refine wk ?_; clear ww1; (repeat' first | exact True.intro | refine Lf.mk ?_ ?_); all_goals intro hP)
        (refine resX ?_; try exact True.intro)
        all_goals simp [insOk, hl]
        all_goals (try first | rfl | omega | (rw [Bool.eq_iff_iff]; simp; omega))
    · have hr' : (rel != 0) = true := by simpa using hr
      (refine ARun.intro Tryd.func33 rfl Tryd.call33 Tryd.ntmps33 Tryd.results33 ?_; simp only [List.length_cons, List.length_nil, List.length_map, Nat.reduceAdd, Nat.reduceSub, List.replicate_succ, List.replicate_zero, List.cons_append, List.nil_append])
      (have ww1 := hr'; refine wk ?_; clear ww1; (repeat' first | exact True.intro | refine Lf.mk ?_ ?_); all_goals intro hP)
      (refine resX ?_; try exact True.intro)
      all_goals simp [insOk, hr]
      all_goals (try first | rfl | omega | (rw [Bool.eq_iff_iff]; simp; omega))
  by_cases h11 : op = 11
  · subst h11
    by_cases hr : rel = 0
    · subst hr
      by_cases hl : 0 ≤ nn
      · (refine ARun.intro Tryd.func33 rfl Tryd.call33 Tryd.ntmps33 Tryd.results33 ?_; simp only [List.length_cons, List.length_nil, List.length_map, Nat.reduceAdd, Nat.reduceSub, List.replicate_succ, List.replicate_zero, List.cons_append, List.nil_append])
        (have ww1 := hl; refine wk ?_; clear ww1; (repeat' first | exact True.intro | refine Lf.mk ?_ ?_); all_goals intro hP)
        (refine resX ?_; try exact True.intro)
        all_goals simp [insOk, hl]
        all_goals (try first | rfl | omega | (rw [Bool.eq_iff_iff]; simp; omega))
      · (refine ARun.intro Tryd.func33 rfl Tryd.call33 Tryd.ntmps33 Tryd.results33 ?_; simp only [List.length_cons, List.length_nil, List.length_map, Nat.reduceAdd, Nat.reduceSub, List.replicate_succ, List.replicate_zero, List.cons_append, List.nil_append])
        (have ww1 := hl; refine wk ?_; clear ww1; (repeat' first | exact True.intro | refine Lf.mk ?_ ?_); all_goals intro hP)
        (refine resX ?_; try exact True.intro)
        all_goals simp [insOk, hl]
        all_goals (try first | rfl | omega | (rw [Bool.eq_iff_iff]; simp; omega))
    · have hr' : (rel != 0) = true := by simpa using hr
      (refine ARun.intro Tryd.func33 rfl Tryd.call33 Tryd.ntmps33 Tryd.results33 ?_; simp only [List.length_cons, List.length_nil, List.length_map, Nat.reduceAdd, Nat.reduceSub, List.replicate_succ, List.replicate_zero, List.cons_append, List.nil_append])
      (have ww1 := hr'; refine wk ?_; clear ww1; (repeat' first | exact True.intro | refine Lf.mk ?_ ?_); all_goals intro hP)
      (refine resX ?_; try exact True.intro)
      all_goals simp [insOk, hr]
      all_goals (try first | rfl | omega | (rw [Bool.eq_iff_iff]; simp; omega))
  by_cases h3 : op = 3
  · subst h3
    by_cases hr : rel = 0
    · subst hr
      by_cases hl : 0 ≤ nn
      · (refine ARun.intro Tryd.func33 rfl Tryd.call33 Tryd.ntmps33 Tryd.results33 ?_; simp only [List.length_cons, List.length_nil, List.length_map, Nat.reduceAdd, Nat.reduceSub, List.replicate_succ, List.replicate_zero, List.cons_append, List.nil_append])
        (have ww1 := hl; refine wk ?_; clear ww1; (repeat' first | exact True.intro | refine Lf.mk ?_ ?_); all_goals intro hP)
        (refine resX ?_; try exact True.intro)
        all_goals simp [insOk, hl]
        all_goals (try first | rfl | omega | (rw [Bool.eq_iff_iff]; simp; omega))
      · (refine ARun.intro Tryd.func33 rfl Tryd.call33 Tryd.ntmps33 Tryd.results33 ?_; simp only [List.length_cons, List.length_nil, List.length_map, Nat.reduceAdd, Nat.reduceSub, List.replicate_succ, List.replicate_zero, List.cons_append, List.nil_append])
        (have ww1 := hl; refine wk ?_; clear ww1; (repeat' first | exact True.intro | refine Lf.mk ?_ ?_); all_goals intro hP)
        (refine resX ?_; try exact True.intro)
        all_goals simp [insOk, hl]
        all_goals (try first | rfl | omega | (rw [Bool.eq_iff_iff]; simp; omega))
    · have hr' : (rel != 0) = true := by simpa using hr
      (refine ARun.intro Tryd.func33 rfl Tryd.call33 Tryd.ntmps33 Tryd.results33 ?_; simp only [List.length_cons, List.length_nil, List.length_map, Nat.reduceAdd, Nat.reduceSub, List.replicate_succ, List.replicate_zero, List.cons_append, List.nil_append])
      (have ww1 := hr'; refine wk ?_; clear ww1; (repeat' first | exact True.intro | refine Lf.mk ?_ ?_); all_goals intro hP)
      (refine resX ?_; try exact True.intro)
      all_goals simp [insOk, hr]
      all_goals (try first | rfl | omega | (rw [Bool.eq_iff_iff]; simp; omega))
  by_cases h12 : op = 12
  · subst h12
    by_cases hl : i < nn
    · by_cases hh : nn ≤ len
      · by_cases h1 : 1 ≤ rel
        · have hz : (rel != 0) = true := by simp; omega
          (refine ARun.intro Tryd.func33 rfl Tryd.call33 Tryd.ntmps33 Tryd.results33 ?_; simp only [List.length_cons, List.length_nil, List.length_map, Nat.reduceAdd, Nat.reduceSub, List.replicate_succ, List.replicate_zero, List.cons_append, List.nil_append])
          (have ww1 := hl; have ww2 := hh; have ww3 := h1; have ww4 := hz; refine wk ?_; clear ww1 ww2 ww3 ww4; (repeat' first | exact True.intro | refine Lf.mk ?_ ?_); all_goals intro hP)
          (refine resX ?_; try exact True.intro)
          all_goals simp [insOk, hl, hh, h1]
          all_goals (try first | rfl | omega | (rw [Bool.eq_iff_iff]; simp; omega))
        · by_cases hz : rel = 0
          · subst hz
            (refine ARun.intro Tryd.func33 rfl Tryd.call33 Tryd.ntmps33 Tryd.results33 ?_; simp only [List.length_cons, List.length_nil, List.length_map, Nat.reduceAdd, Nat.reduceSub, List.replicate_succ, List.replicate_zero, List.cons_append, List.nil_append])
            (have ww1 := hl; have ww2 := hh; have ww3 := h1; refine wk ?_; clear ww1 ww2 ww3; (repeat' first | exact True.intro | refine Lf.mk ?_ ?_); all_goals intro hP)
            (refine resX ?_; try exact True.intro)
            all_goals simp [insOk, hl, hh, h1]
            all_goals (try first | rfl | omega | (rw [Bool.eq_iff_iff]; simp; omega))
          · have hz' : (rel != 0) = true := by simpa using hz
            (refine ARun.intro Tryd.func33 rfl Tryd.call33 Tryd.ntmps33 Tryd.results33 ?_; simp only [List.length_cons, List.length_nil, List.length_map, Nat.reduceAdd, Nat.reduceSub, List.replicate_succ, List.replicate_zero, List.cons_append, List.nil_append])
            (have ww1 := hl; have ww2 := hh; have ww3 := h1; have ww4 := hz'; refine wk ?_; clear ww1 ww2 ww3 ww4; (repeat' first | exact True.intro | refine Lf.mk ?_ ?_); all_goals intro hP)
            (refine resX ?_; try exact True.intro)
            all_goals simp [insOk, hl, hh, h1]
            all_goals (try first | rfl | omega | (rw [Bool.eq_iff_iff]; simp; omega))
      · by_cases hz : rel = 0
        · subst hz
          (refine ARun.intro Tryd.func33 rfl Tryd.call33 Tryd.ntmps33 Tryd.results33 ?_; simp only [List.length_cons, List.length_nil, List.length_map, Nat.reduceAdd, Nat.reduceSub, List.replicate_succ, List.replicate_zero, List.cons_append, List.nil_append])
          (have ww1 := hl; have ww2 := hh; refine wk ?_; clear ww1 ww2; (repeat' first | exact True.intro | refine Lf.mk ?_ ?_); all_goals intro hP)
          (refine resX ?_; try exact True.intro)
          all_goals simp [insOk, hl, hh]
          all_goals (try first | rfl | omega | (rw [Bool.eq_iff_iff]; simp; omega))
        · have hz' : (rel != 0) = true := by simpa using hz
          (refine ARun.intro Tryd.func33 rfl Tryd.call33 Tryd.ntmps33 Tryd.results33 ?_; simp only [List.length_cons, List.length_nil, List.length_map, Nat.reduceAdd, Nat.reduceSub, List.replicate_succ, List.replicate_zero, List.cons_append, List.nil_append])
          (have ww1 := hl; have ww2 := hh; have ww3 := hz'; refine wk ?_; clear ww1 ww2 ww3; (repeat' first | exact True.intro | refine Lf.mk ?_ ?_); all_goals intro hP)
          (refine resX ?_; try exact True.intro)
          all_goals simp [insOk, hl, hh]
          all_goals (try first | rfl | omega | (rw [Bool.eq_iff_iff]; simp; omega))
    · by_cases hz : rel = 0
      · subst hz
        (refine ARun.intro Tryd.func33 rfl Tryd.call33 Tryd.ntmps33 Tryd.results33 ?_; simp only [List.length_cons, List.length_nil, List.length_map, Nat.reduceAdd, Nat.reduceSub, List.replicate_succ, List.replicate_zero, List.cons_append, List.nil_append])
        (have ww1 := hl; refine wk ?_; clear ww1; (repeat' first | exact True.intro | refine Lf.mk ?_ ?_); all_goals intro hP)
        (refine resX ?_; try exact True.intro)
        all_goals simp [insOk, hl]
        all_goals (try first | rfl | omega | (rw [Bool.eq_iff_iff]; simp; omega))
      · have hz' : (rel != 0) = true := by simpa using hz
        (refine ARun.intro Tryd.func33 rfl Tryd.call33 Tryd.ntmps33 Tryd.results33 ?_; simp only [List.length_cons, List.length_nil, List.length_map, Nat.reduceAdd, Nat.reduceSub, List.replicate_succ, List.replicate_zero, List.cons_append, List.nil_append])
        (have ww1 := hl; have ww2 := hz'; refine wk ?_; clear ww1 ww2; (repeat' first | exact True.intro | refine Lf.mk ?_ ?_); all_goals intro hP)
        (refine resX ?_; try exact True.intro)
        all_goals simp [insOk, hl]
        all_goals (try first | rfl | omega | (rw [Bool.eq_iff_iff]; simp; omega))
  by_cases h13 : op = 13
  · subst h13
    by_cases hr : rel = 0
    · subst hr
      by_cases hl : i < nn
      · (refine ARun.intro Tryd.func33 rfl Tryd.call33 Tryd.ntmps33 Tryd.results33 ?_; simp only [List.length_cons, List.length_nil, List.length_map, Nat.reduceAdd, Nat.reduceSub, List.replicate_succ, List.replicate_zero, List.cons_append, List.nil_append])
        (have ww1 := hl; refine wk ?_; clear ww1; (repeat' first | exact True.intro | refine Lf.mk ?_ ?_); all_goals intro hP)
        (refine resX ?_; try exact True.intro)
        all_goals simp [insOk, hl]
        all_goals (try first | rfl | omega | (rw [Bool.eq_iff_iff]; simp; omega))
      · (refine ARun.intro Tryd.func33 rfl Tryd.call33 Tryd.ntmps33 Tryd.results33 ?_; simp only [List.length_cons, List.length_nil, List.length_map, Nat.reduceAdd, Nat.reduceSub, List.replicate_succ, List.replicate_zero, List.cons_append, List.nil_append])
        (have ww1 := hl; refine wk ?_; clear ww1; (repeat' first | exact True.intro | refine Lf.mk ?_ ?_); all_goals intro hP)
        (refine resX ?_; try exact True.intro)
        all_goals simp [insOk, hl]
        all_goals (try first | rfl | omega | (rw [Bool.eq_iff_iff]; simp; omega))
    · have hr' : (rel != 0) = true := by simpa using hr
      (refine ARun.intro Tryd.func33 rfl Tryd.call33 Tryd.ntmps33 Tryd.results33 ?_; simp only [List.length_cons, List.length_nil, List.length_map, Nat.reduceAdd, Nat.reduceSub, List.replicate_succ, List.replicate_zero, List.cons_append, List.nil_append])
      (have ww1 := hr'; refine wk ?_; clear ww1; (repeat' first | exact True.intro | refine Lf.mk ?_ ?_); all_goals intro hP)
      (refine resX ?_; try exact True.intro)
      all_goals simp [insOk, hr]
      all_goals (try first | rfl | omega | (rw [Bool.eq_iff_iff]; simp; omega))
  have e1 : (op == 1) = false := by simpa using h1
  have e2 : (op == 2) = false := by simpa using h2
  have e11 : (op == 11) = false := by simpa using h11
  have e3 : (op == 3) = false := by simpa using h3
  have e12 : (op == 12) = false := by simpa using h12
  have e13 : (op == 13) = false := by simpa using h13
  have ne12 : (op != 12) = true := by simpa using h12
  by_cases hlo : op < 1
  · have hn' : ¬ 4 ≤ op := by omega
    (refine ARun.intro Tryd.func33 rfl Tryd.call33 Tryd.ntmps33 Tryd.results33 ?_; simp only [List.length_cons, List.length_nil, List.length_map, Nat.reduceAdd, Nat.reduceSub, List.replicate_succ, List.replicate_zero, List.cons_append, List.nil_append])
    (have ww1 := hlo; have ww2 := e1; have ww3 := e2; have ww4 := e11; have ww5 := e3; have ww6 := e12; have ww7 := e13; have ww8 := ne12; refine wk ?_; clear ww1 ww2 ww3 ww4 ww5 ww6 ww7 ww8; (repeat' first | exact True.intro | refine Lf.mk ?_ ?_); all_goals intro hP)
    (refine resX ?_; try exact True.intro)
    all_goals simp [insOk, h1, h2, h3, h11, h12, h13, hn']
    all_goals (try first | rfl | omega | (rw [Bool.eq_iff_iff]; simp; omega))
  by_cases hhi : 13 < op
  · have hn' : ¬ op ≤ 10 := by omega
    (refine ARun.intro Tryd.func33 rfl Tryd.call33 Tryd.ntmps33 Tryd.results33 ?_; simp only [List.length_cons, List.length_nil, List.length_map, Nat.reduceAdd, Nat.reduceSub, List.replicate_succ, List.replicate_zero, List.cons_append, List.nil_append])
    (have ww1 := hlo; have ww2 := hhi; have ww3 := e1; have ww4 := e2; have ww5 := e11; have ww6 := e3; have ww7 := e12; have ww8 := e13; have ww9 := ne12; refine wk ?_; clear ww1 ww2 ww3 ww4 ww5 ww6 ww7 ww8 ww9; (repeat' first | exact True.intro | refine Lf.mk ?_ ?_); all_goals intro hP)
    (refine resX ?_; try exact True.intro)
    all_goals simp [insOk, h1, h2, h3, h11, h12, h13, hn']
    all_goals (try first | rfl | omega | (rw [Bool.eq_iff_iff]; simp; omega))
  have ho : 4 ≤ op ∧ op ≤ 10 := by omega
  by_cases hr : rel = 0
  · subst hr
    (refine ARun.intro Tryd.func33 rfl Tryd.call33 Tryd.ntmps33 Tryd.results33 ?_; simp only [List.length_cons, List.length_nil, List.length_map, Nat.reduceAdd, Nat.reduceSub, List.replicate_succ, List.replicate_zero, List.cons_append, List.nil_append])
    (have ww1 := hlo; have ww2 := hhi; have ww3 := e1; have ww4 := e2; have ww5 := e11; have ww6 := e3; have ww7 := e12; have ww8 := e13; have ww9 := ne12; refine wk ?_; clear ww1 ww2 ww3 ww4 ww5 ww6 ww7 ww8 ww9; (repeat' first | exact True.intro | refine Lf.mk ?_ ?_); all_goals intro hP)
    (refine resX ?_; try exact True.intro)
    all_goals simp [insOk, h1, h2, h3, h11, h12, h13, ho.1, ho.2]
    all_goals (try first | rfl | omega | (rw [Bool.eq_iff_iff]; simp; omega))
  · have hr' : (rel != 0) = true := by simpa using hr
    (refine ARun.intro Tryd.func33 rfl Tryd.call33 Tryd.ntmps33 Tryd.results33 ?_; simp only [List.length_cons, List.length_nil, List.length_map, Nat.reduceAdd, Nat.reduceSub, List.replicate_succ, List.replicate_zero, List.cons_append, List.nil_append])
    (have ww1 := hlo; have ww2 := hhi; have ww3 := hr'; have ww4 := e1; have ww5 := e2; have ww6 := e11; have ww7 := e3; have ww8 := e12; have ww9 := e13; have ww10 := ne12; refine wk ?_; clear ww1 ww2 ww3 ww4 ww5 ww6 ww7 ww8 ww9 ww10; (repeat' first | exact True.intro | refine Lf.mk ?_ ?_); all_goals intro hP)
    (refine resX ?_; try exact True.intro)
    all_goals simp [insOk, h1, h2, h3, h11, h12, h13, hr]
    all_goals (try first | rfl | omega | (rw [Bool.eq_iff_iff]; simp; omega))
end Go.Proofs.YtimmncjdknlegaaDoor.Y

set_option maxHeartbeats 8000000
set_option maxRecDepth 20000
set_option linter.unusedVariables false
set_option linter.unusedSimpArgs false
set_option linter.unusedSectionVars false
namespace Go.Proofs.YtimmncjdknlegaaDoor.Y
open Go.Proofs.YtimmncjdknlegaaDoor.AL Go.Proofs Go
attribute [local irreducible] AWP AWL AWG AWR AWE AWX AWO AWSeq AWSG AWSR AWSO AWSE AWSF GoodP OGW OGR OGE OGX PGW PGR PGE Wk AWLoop AWPD AWLD

def outC (r : Except Int Int) : AV := match r with
  | .ok v => .tup [.i v, .i 0]
  | .error e => .tup [.i 0, .i e]
theorem valS_out (n : Int) : outC (valS n) = if (decide (-1000000000000 ≤ n) && decide (n ≤ 1000000000000)) = true then .tup [.i n, .i 0] else .tup [.i 0, .i 3] := by
  unfold valS
  by_cases h : -1000000000000 ≤ n ∧ n ≤ 1000000000000
  · rw [if_pos h, if_pos (by simp [h.1, h.2])]; rfl
  · rw [if_neg h, if_neg (by simp; omega)]; rfl
theorem Rcalc_run (op a b : Int) (hop : 4 ≤ op ∧ op ≤ 10) (ha : isV a) (hb' : isV b) (H0 : List AObj) :
    ARun Tryd.prog 32 [.i op, .i a, .i b] H0 (.ret (outC (calcS op a b)) H0) := by
  have hv := fun n H0 => RValue_run n H0
  have h : op = 4 ∨ op = 5 ∨ op = 6 ∨ op = 7 ∨ op = 8 ∨ op = 9 ∨ op = 10 := by omega
  clear hop
  rcases h with rfl | rfl | rfl | rfl | rfl | rfl | rfl
  all_goals simp only [calcS, Int.reduceEq, if_false, if_true]
  · rw [valS_out]
    have w1 : IntKind.i64.wrap (a + b) = a + b := wrap_of (by omega) (by omega)
    have hv := hv (a + b)
    cases hd : (decide (-1000000000000 ≤ (a + b)) && decide ((a + b) ≤ 1000000000000)) with
    | true =>
      simp only [hd] at hv
      (refine ARun.intro Tryd.func32 rfl Tryd.call32 Tryd.ntmps32 Tryd.results32 ?_; simp only [List.length_cons, List.length_nil, List.length_map, Nat.reduceAdd, Nat.reduceSub, List.replicate_succ, List.replicate_zero, List.cons_append, List.nil_append])
      (have ww1 := w1; have cc1 := fun z1 => hv z1; refine wk ?_; clear ww1 cc1; (repeat' first | exact True.intro | refine Lf.mk ?_ ?_); all_goals intro hP)
      (refine resX ?_; try exact True.intro)
    | false =>
      simp only [hd] at hv
      (refine ARun.intro Tryd.func32 rfl Tryd.call32 Tryd.ntmps32 Tryd.results32 ?_; simp only [List.length_cons, List.length_nil, List.length_map, Nat.reduceAdd, Nat.reduceSub, List.replicate_succ, List.replicate_zero, List.cons_append, List.nil_append])
      (have ww1 := w1; have cc1 := fun z1 => hv z1; refine wk ?_; clear ww1 cc1; (repeat' first | exact True.intro | refine Lf.mk ?_ ?_); all_goals intro hP)
      (refine resX ?_; try exact True.intro)
  · rw [valS_out]
    have w1 : IntKind.i64.wrap (a - b) = a - b := wrap_of (by omega) (by omega)
    have hv := hv (a - b)
    cases hd : (decide (-1000000000000 ≤ (a - b)) && decide ((a - b) ≤ 1000000000000)) with
    | true =>
      simp only [hd] at hv
      (refine ARun.intro Tryd.func32 rfl Tryd.call32 Tryd.ntmps32 Tryd.results32 ?_; simp only [List.length_cons, List.length_nil, List.length_map, Nat.reduceAdd, Nat.reduceSub, List.replicate_succ, List.replicate_zero, List.cons_append, List.nil_append])
      (have ww1 := w1; have cc1 := fun z1 => hv z1; refine wk ?_; clear ww1 cc1; (repeat' first | exact True.intro | refine Lf.mk ?_ ?_); all_goals intro hP)
      (refine resX ?_; try exact True.intro)
    | false =>
      simp only [hd] at hv
      (refine ARun.intro Tryd.func32 rfl Tryd.call32 Tryd.ntmps32 Tryd.results32 ?_; simp only [List.length_cons, List.length_nil, List.length_map, Nat.reduceAdd, Nat.reduceSub, List.replicate_succ, List.replicate_zero, List.cons_append, List.nil_append])
      (have ww1 := w1; have cc1 := fun z1 => hv z1; refine wk ?_; clear ww1 cc1; (repeat' first | exact True.intro | refine Lf.mk ?_ ?_); all_goals intro hP)
      (refine resX ?_; try exact True.intro)
  · rw [valS_out]
    skip
    have hv := hv (prodS a b)
    cases hd : (decide (-1000000000000 ≤ (prodS a b)) && decide ((prodS a b) ≤ 1000000000000)) with
    | true =>
      simp only [hd] at hv
      (refine ARun.intro Tryd.func32 rfl Tryd.call32 Tryd.ntmps32 Tryd.results32 ?_; simp only [List.length_cons, List.length_nil, List.length_map, Nat.reduceAdd, Nat.reduceSub, List.replicate_succ, List.replicate_zero, List.cons_append, List.nil_append])
      (have cc1 := fun z1 => hv z1; have cc2 := fun z1 => RProduct_run a b ha hb' z1; refine wk ?_; clear cc1 cc2; (repeat' first | exact True.intro | refine Lf.mk ?_ ?_); all_goals intro hP)
      (refine resX ?_; try exact True.intro)
    | false =>
      simp only [hd] at hv
      (refine ARun.intro Tryd.func32 rfl Tryd.call32 Tryd.ntmps32 Tryd.results32 ?_; simp only [List.length_cons, List.length_nil, List.length_map, Nat.reduceAdd, Nat.reduceSub, List.replicate_succ, List.replicate_zero, List.cons_append, List.nil_append])
      (have cc1 := fun z1 => hv z1; have cc2 := fun z1 => RProduct_run a b ha hb' z1; refine wk ?_; clear cc1 cc2; (repeat' first | exact True.intro | refine Lf.mk ?_ ?_); all_goals intro hP)
      (refine resX ?_; try exact True.intro)
  · by_cases hz : b = 0
    · rw [if_pos hz]
      (refine ARun.intro Tryd.func32 rfl Tryd.call32 Tryd.ntmps32 Tryd.results32 ?_; simp only [List.length_cons, List.length_nil, List.length_map, Nat.reduceAdd, Nat.reduceSub, List.replicate_succ, List.replicate_zero, List.cons_append, List.nil_append])
      (have ww1 := hz; refine wk ?_; clear ww1; (repeat' first | exact True.intro | refine Lf.mk ?_ ?_); all_goals intro hP)
      (refine resX ?_; try exact True.intro)
    rw [if_neg hz, valS_out]
    have z1 : (b == 0) = false := by simpa using hz
    have hv := hv (downS a b)
    cases hd : (decide (-1000000000000 ≤ (downS a b)) && decide ((downS a b) ≤ 1000000000000)) with
    | true =>
      simp only [hd] at hv
      (refine ARun.intro Tryd.func32 rfl Tryd.call32 Tryd.ntmps32 Tryd.results32 ?_; simp only [List.length_cons, List.length_nil, List.length_map, Nat.reduceAdd, Nat.reduceSub, List.replicate_succ, List.replicate_zero, List.cons_append, List.nil_append])
      (have ww1 := z1; have ww2 := hz; have cc1 := fun z1 => hv z1; have cc2 := fun z1 => RDown_run a b ha hz z1; refine wk ?_; clear ww1 ww2 cc1 cc2; (repeat' first | exact True.intro | refine Lf.mk ?_ ?_); all_goals intro hP)
      (refine resX ?_; try exact True.intro)
    | false =>
      simp only [hd] at hv
      (refine ARun.intro Tryd.func32 rfl Tryd.call32 Tryd.ntmps32 Tryd.results32 ?_; simp only [List.length_cons, List.length_nil, List.length_map, Nat.reduceAdd, Nat.reduceSub, List.replicate_succ, List.replicate_zero, List.cons_append, List.nil_append])
      (have ww1 := z1; have ww2 := hz; have cc1 := fun z1 => hv z1; have cc2 := fun z1 => RDown_run a b ha hz z1; refine wk ?_; clear ww1 ww2 cc1 cc2; (repeat' first | exact True.intro | refine Lf.mk ?_ ?_); all_goals intro hP)
      (refine resX ?_; try exact True.intro)
  · by_cases hz : b = 0
    · rw [if_pos hz]
      (refine ARun.intro Tryd.func32 rfl Tryd.call32 Tryd.ntmps32 Tryd.results32 ?_; simp only [List.length_cons, List.length_nil, List.length_map, Nat.reduceAdd, Nat.reduceSub, List.replicate_succ, List.replicate_zero, List.cons_append, List.nil_append])
      (have ww1 := hz; refine wk ?_; clear ww1; (repeat' first | exact True.intro | refine Lf.mk ?_ ?_); all_goals intro hP)
      (refine resX ?_; try exact True.intro)
    rw [if_neg hz, valS_out]
    have d1 := downS_bd (a := -a) (b := b) ⟨by omega, by omega⟩ hz
    have w1 : IntKind.i64.wrap (-a) = -a := wrap_of (by omega) (by omega)
    have w2 : IntKind.i64.wrap (-downS (-a) b) = -downS (-a) b := wrap_of (by omega) (by omega)
    have z1 : (b == 0) = false := by simpa using hz
    have hv := hv (-downS (-a) b)
    cases hd : (decide (-1000000000000 ≤ (-downS (-a) b)) && decide ((-downS (-a) b) ≤ 1000000000000)) with
    | true =>
      simp only [hd] at hv
      (refine ARun.intro Tryd.func32 rfl Tryd.call32 Tryd.ntmps32 Tryd.results32 ?_; simp only [List.length_cons, List.length_nil, List.length_map, Nat.reduceAdd, Nat.reduceSub, List.replicate_succ, List.replicate_zero, List.cons_append, List.nil_append])
      (have ww1 := w1; have ww2 := w2; have ww3 := z1; have ww4 := hz; have cc1 := fun z1 => hv z1; have cc2 := fun z1 => RDown_run (-a) b ⟨by omega, by omega⟩ hz z1; refine wk ?_; clear ww1 ww2 ww3 ww4 cc1 cc2; (repeat' first | exact True.intro | refine Lf.mk ?_ ?_); all_goals intro hP)
      (refine resX ?_; try exact True.intro)
    | false =>
      simp only [hd] at hv
      (refine ARun.intro Tryd.func32 rfl Tryd.call32 Tryd.ntmps32 Tryd.results32 ?_; simp only [List.length_cons, List.length_nil, List.length_map, Nat.reduceAdd, Nat.reduceSub, List.replicate_succ, List.replicate_zero, List.cons_append, List.nil_append])
      (have ww1 := w1; have ww2 := w2; have ww3 := z1; have ww4 := hz; have cc1 := fun z1 => hv z1; have cc2 := fun z1 => RDown_run (-a) b ⟨by omega, by omega⟩ hz z1; refine wk ?_; clear ww1 ww2 ww3 ww4 cc1 cc2; (repeat' first | exact True.intro | refine Lf.mk ?_ ?_); all_goals intro hP)
      (refine resX ?_; try exact True.intro)
  · rw [valS_out]
    skip
    have hv := hv (if b < a then b else a)
    cases hd : (decide (-1000000000000 ≤ (if b < a then b else a)) && decide ((if b < a then b else a) ≤ 1000000000000)) with
    | true =>
      simp only [hd] at hv
      (refine ARun.intro Tryd.func32 rfl Tryd.call32 Tryd.ntmps32 Tryd.results32 ?_; simp only [List.length_cons, List.length_nil, List.length_map, Nat.reduceAdd, Nat.reduceSub, List.replicate_succ, List.replicate_zero, List.cons_append, List.nil_append])
      (have cc1 := fun z1 => hv z1; refine wk ?_; clear cc1; (repeat' first | exact True.intro | refine Lf.mk ?_ ?_); all_goals intro hP)
      (refine resX ?_; try exact True.intro)
    | false =>
      simp only [hd] at hv
      (refine ARun.intro Tryd.func32 rfl Tryd.call32 Tryd.ntmps32 Tryd.results32 ?_; simp only [List.length_cons, List.length_nil, List.length_map, Nat.reduceAdd, Nat.reduceSub, List.replicate_succ, List.replicate_zero, List.cons_append, List.nil_append])
      (have cc1 := fun z1 => hv z1; refine wk ?_; clear cc1; (repeat' first | exact True.intro | refine Lf.mk ?_ ?_); all_goals intro hP)
      (refine resX ?_; try exact True.intro)
  · rw [valS_out]
    skip
    have hv := hv (if a < b then b else a)
    cases hd : (decide (-1000000000000 ≤ (if a < b then b else a)) && decide ((if a < b then b else a) ≤ 1000000000000)) with
    | true =>
      simp only [hd] at hv
      (refine ARun.intro Tryd.func32 rfl Tryd.call32 Tryd.ntmps32 Tryd.results32 ?_; simp only [List.length_cons, List.length_nil, List.length_map, Nat.reduceAdd, Nat.reduceSub, List.replicate_succ, List.replicate_zero, List.cons_append, List.nil_append])
      (have cc1 := fun z1 => hv z1; refine wk ?_; clear cc1; (repeat' first | exact True.intro | refine Lf.mk ?_ ?_); all_goals intro hP)
      (refine resX ?_; try exact True.intro)
    | false =>
      simp only [hd] at hv
      (refine ARun.intro Tryd.func32 rfl Tryd.call32 Tryd.ntmps32 Tryd.results32 ?_; simp only [List.length_cons, List.length_nil, List.length_map, Nat.reduceAdd, Nat.reduceSub, List.replicate_succ, List.replicate_zero, List.cons_append, List.nil_append])
      (have cc1 := fun z1 => hv z1; refine wk ?_; clear cc1; (repeat' first | exact True.intro | refine Lf.mk ?_ ?_); all_goals intro hP)
      (refine resX ?_; try exact True.intro)
end Go.Proofs.YtimmncjdknlegaaDoor.Y

set_option maxHeartbeats 8000000
set_option maxRecDepth 20000
set_option linter.unusedVariables false
set_option linter.unusedSimpArgs false
set_option linter.unusedSectionVars false
namespace Go.Proofs.YtimmncjdknlegaaDoor.Y
open Go.Proofs.YtimmncjdknlegaaDoor.AL Go.Proofs Go
attribute [local irreducible] AWP AWL AWG AWR AWE AWX AWO AWSeq AWSG AWSR AWSO AWSE AWSF GoodP OGW OGR OGE OGX PGW PGR PGE Wk AWLoop AWPD AWLD

abbrev rX (now : List Int) : AObj := .arr 3 1 (now.map fun v => [AV.i v])
theorem RHandler_run (l : List Ins) (vars : Int) (hv : 0 ≤ vars ∧ vars ≤ 12) (hl : l.length ≤ 2000000) (H0 : List AObj) :
    ARun Tryd.prog 26 [.rs 3 (l.map encI), .i vars] H0 (.ret (.b (verH l vars)) H0) := by
  by_cases h4 : (4000 : Int) < l.length
  · have h4' : ¬ l.length ≤ 4000 := by omega
    (refine ARun.intro Tryd.func26 rfl Tryd.call26 Tryd.ntmps26 Tryd.results26 ?_; simp only [List.length_cons, List.length_nil, List.length_map, Nat.reduceAdd, Nat.reduceSub, List.replicate_succ, List.replicate_zero, List.cons_append, List.nil_append])
    (have ww1 := h4; refine wk ?_; clear ww1; (repeat' first | exact True.intro | refine Lf.mk ?_ ?_); all_goals intro hP)
    (refine resX ?_; try exact True.intro)
    simp [verH, h4']
  · have h4' : l.length ≤ 4000 := by omega
    have w1 : IntKind.i64.wrap ((l.length : Int) + 1) = ((l.length + 1 : Nat) : Int) := by rw [wrap_of (by omega) (by omega)]; omega
    have w3 : ¬ ((l.length : Int) + 1 < 0) := by omega
    have hk1 : ((l.length + 1 : Nat) : Int) ≤ 281474976710656 := by omega
    have hk2 : 8 * ((l.length + 1 : Nat) : Int) ≤ 281474976710656 := by omega
    rw [verH_eq h4']
    (refine ARun.intro Tryd.func26 rfl Tryd.call26 Tryd.ntmps26 Tryd.results26 ?_; simp only [List.length_cons, List.length_nil, List.length_map, Nat.reduceAdd, Nat.reduceSub, List.replicate_succ, List.replicate_zero, List.cons_append, List.nil_append])
    (have ww1 := h4; have ww2 := w1; have ww3 := hk1; have ww4 := hk2; have ww5 := and_self; refine wk ?_; clear ww1 ww2 ww3 ww4 ww5; (repeat' first | exact True.intro | refine Lf.mk ?_ ?_); all_goals intro hP)
    refine awp_loop_ind (σ := Nat) (fun k => l.length + 1 - k) (fun k => 1 ≤ k ∧ k ≤ l.length + 1)
      (fun k => (.rs 3 (l.map encI) :: .i vars :: .any :: .any :: .any :: .os H0.length 0 (l.length + 1) (l.length + 1) :: .i k :: .any :: .any :: .any :: .any :: .any :: .any :: .any :: .any :: .any :: .any :: .any :: .any :: .any :: .any :: .any :: .any :: .any :: .any :: .any :: .any :: .any :: .any :: .any :: .any :: .any :: .any :: .any :: .any :: .any :: .any :: .any :: .any :: .any :: .any :: .any :: .any :: .any :: .any :: .any :: .any :: .any :: .any :: .any :: .any :: .any :: .any :: .any :: .any :: .any :: .any :: .any :: .any :: .any :: .any :: .any :: .any :: .any :: .any :: .any :: .any :: .any :: .any :: .any :: .any :: .any :: .any :: .any :: .any :: .any :: .any :: .any :: .any :: .any :: .any :: .any :: .any :: .any :: .any :: .any :: .any :: .any :: .any :: .any :: .any :: .any :: .any :: .any :: .any :: .any :: .any :: .any :: .any :: .any :: .any :: .any :: .any :: .any :: .any :: .any :: .any :: .any :: .any :: .any :: .any :: .any :: .any :: .any :: .any :: .any :: .any :: .any :: .any :: .any :: .any :: .any :: .any :: .any :: .any :: .any :: .any :: .any :: .any :: .any :: .any :: .any :: .any :: []))
      (fun k => H0 ++ [rX ((0 :: List.replicate l.length (-1)).take k ++ (List.replicate (l.length + 1) 0).drop k)]) 1 ⟨by omega, by omega⟩ ?_ ?_
    · refine Wk.fgtE ?_ (by (refine fgX ?_; try exact True.intro))
      simp [rX]
    · rintro k ⟨k1, k2⟩
      by_cases hk : k = l.length + 1
      · subst hk
        have hkl : ¬ ((l.length + 1 : Nat) : Int) ≤ l.length := by omega
        (have ww1 := hkl; refine wk ?_; clear ww1; (repeat' first | exact True.intro | refine Lf.mk ?_ ?_); all_goals intro hP)
        refine awp_loop_ind (σ := Nat × List Int) (fun s => l.length - s.1)
          (fun s => s.1 ≤ l.length ∧ s.2.length = l.length + 1 ∧ HsOk s.2 ∧ hLoop l.length vars l 0 (0 :: List.replicate l.length (-1)) = hLoop l.length vars (l.drop s.1) s.1 s.2)
          (fun s => (.rs 3 (l.map encI) :: .i vars :: .any :: .any :: .any :: .os H0.length 0 (l.length + 1) (l.length + 1) :: .any :: .i s.1 :: .any :: .any :: .any :: .any :: .any :: .any :: .any :: .any :: .any :: .any :: .any :: .any :: .any :: .any :: .any :: .any :: .any :: .any :: .any :: .any :: .any :: .any :: .any :: .any :: .any :: .any :: .any :: .any :: .any :: .any :: .any :: .any :: .any :: .any :: .any :: .any :: .any :: .any :: .any :: .any :: .any :: .any :: .any :: .any :: .any :: .any :: .any :: .any :: .any :: .any :: .any :: .any :: .any :: .any :: .any :: .any :: .any :: .any :: .any :: .any :: .any :: .any :: .any :: .any :: .any :: .any :: .any :: .any :: .any :: .any :: .any :: .any :: .any :: .any :: .any :: .any :: .any :: .any :: .any :: .any :: .any :: .any :: .any :: .any :: .any :: .any :: .any :: .any :: .any :: .any :: .any :: .any :: .any :: .any :: .any :: .any :: .any :: .any :: .any :: .any :: .any :: .any :: .any :: .any :: .any :: .any :: .any :: .any :: .any :: .any :: .any :: .any :: .any :: .any :: .any :: .any :: .any :: .any :: .any :: .any :: .any :: .any :: .any :: .any :: .any :: []))
          (fun s => H0 ++ [rX s.2]) (0, 0 :: List.replicate l.length (-1)) ⟨Nat.zero_le _, by simp, HsOk.start _, by simp⟩ ?_ ?_
        · refine Wk.fgtE ?_ (by (refine fgX ?_; try exact True.intro))
          simp [rX, List.take_of_length_le]
        · rintro ⟨i, hs⟩ ⟨h1, h2, h3, h5⟩
          simp only at h1 h2 h3 h5 ⊢
          obtain ⟨y, hy⟩ := get_some (hs := hs) (i := i) (by omega)
          have yb := h3.get hy
          have hy' : (hs.map fun v => [AV.i v])[i]? = some [AV.i y] := by rw [List.getElem?_map, hy]; rfl
          have hil : (i : Int) < (l.length + 1 : Nat) := by omega
          cases hr : l.drop i with
          | nil =>
            have hlt := drop_nil hr
            obtain rfl : i = l.length := by have := List.drop_eq_nil_iff.1 hr; omega
            rw [hr, hLoop_nil hy] at h5
            rw [h5]
            (have ww1 := hlt; have ww2 := h2; have ww3 := hil; have ww4 := hy'; refine wk ?_; clear ww1 ww2 ww3 ww4; (repeat' first | exact True.intro | refine Lf.mk ?_ ?_); all_goals intro hP)
            (refine resX ?_; try exact True.intro)
          | cons x rest =>
            obtain ⟨hx, hlt, hd, hm⟩ := drop_cons hr
            rw [hr, hLoop_cons] at h5
            obtain ⟨op, nn, rel⟩ := x
            have hx' : (l.map encI)[i]? = some (cI ⟨op, nn, rel⟩) := by rw [List.getElem?_map, hx]; rfl
            have hins := fun H0 => Rinstr_run op nn rel i l.length vars H0
            have hw1 : IntKind.i64.wrap ((i : Int) + 1) = ((i + 1 : Nat) : Int) := by rw [wrap_of (by omega) (by omega)]; omega
            have hi1 : ((i + 1 : Nat) : Int) < (l.length + 1 : Nat) := by omega
            cases hok : insOk ⟨op, nn, rel⟩ i l.length vars with
            | false =>
              rw [hStep_bad hy (.inr (.inl hok))] at h5
              simp only at h5
              rw [h5]
              simp only [hok] at hins
              (have ww1 := hlt; have ww2 := h2; have ww3 := hil; have ww4 := hx'; have ww5 := hy'; have cc1 := fun z1 => hins z1; refine wk ?_; clear ww1 ww2 ww3 ww4 ww5 cc1; (repeat' first | exact True.intro | refine Lf.mk ?_ ?_); all_goals intro hP)
              (refine resX ?_; try exact True.intro)
            | true =>
              simp only [hok] at hins
              have hop := insOk_op hok
              simp only at hop
              have t1 := takes_nn op
              have t2 : takes op ≤ 2 := by unfold takes; repeat' split <;> omega
              have p1 := puts_nn op
              have p2 : puts op ≤ 1 := by unfold puts; split <;> omega
              have htk := fun H0 => RTakes_run op hop H0
              by_cases hy0 : y < 0
              · rw [hStep_bad hy (.inl (by omega))] at h5
                simp only at h5
                rw [h5]
                (have ww1 := hlt; have ww2 := h2; have ww3 := hil; have ww4 := hx'; have ww5 := hy'; have ww6 := hy0; have cc1 := fun z1 => hins z1; refine wk ?_; clear ww1 ww2 ww3 ww4 ww5 ww6 cc1; (repeat' first | exact True.intro | refine Lf.mk ?_ ?_); all_goals intro hP)
                (refine resX ?_; try exact True.intro)
              have wy1 : IntKind.i64.wrap (y - takes op) = y - takes op := wrap_of (by omega) (by omega)
              have wy2 : IntKind.i64.wrap (y - takes op + puts op) = y - takes op + puts op := wrap_of (by omega) (by omega)
              by_cases hty : y < takes op
              · rw [hStep_bad hy (.inr (.inr hty))] at h5
                simp only at h5
                rw [h5]
                (have ww1 := hlt; have ww2 := h2; have ww3 := hil; have ww4 := hx'; have ww5 := hy'; have ww6 := hy0; have ww7 := hty; have ww8 := wy1; have ww9 := wy2; have cc1 := fun z1 => hins z1; have cc2 := fun z1 => htk z1; refine wk ?_; clear ww1 ww2 ww3 ww4 ww5 ww6 ww7 ww8 ww9 cc1 cc2; (repeat' first | exact True.intro | refine Lf.mk ?_ ?_); all_goals intro hP)
                (refine resX ?_; try exact True.intro)
              by_cases hdp : 64 < y - takes op + puts op
              · rw [hStep_deep hy hdp] at h5
                simp only at h5
                rw [h5]
                (have ww1 := hlt; have ww2 := h2; have ww3 := hil; have ww4 := hx'; have ww5 := hy'; have ww6 := hy0; have ww7 := hty; have ww8 := hdp; have ww9 := wy1; have ww10 := wy2; have cc1 := fun z1 => hins z1; have cc2 := fun z1 => htk z1; refine wk ?_; clear ww1 ww2 ww3 ww4 ww5 ww6 ww7 ww8 ww9 ww10 cc1 cc2; (repeat' first | exact True.intro | refine Lf.mk ?_ ?_); all_goals intro hP)
                (refine resX ?_; try exact True.intro)
              have hnb : ¬ (y = -1 ∨ insOk ⟨op, nn, rel⟩ i l.length vars = false ∨ y < takes op) := by rw [hok]; simp; omega
              have hdb : -1 ≤ y - takes op + puts op ∧ y - takes op + puts op ≤ 64 := by omega
              have hdn : 0 ≤ y - takes op + puts op := by omega
              have g12 := hStep_12 (len := l.length) (vars := vars) (x := ⟨op, nn, rel⟩) hy hnb hdp
              have g13 := hStep_13 (len := l.length) (vars := vars) (x := ⟨op, nn, rel⟩) hy hnb hdp
              have ggo := hStep_go (len := l.length) (vars := vars) (x := ⟨op, nn, rel⟩) hy hnb hdp
              have hj := insOk_jump hok
              simp only at g12 g13 ggo hj
              generalize hdd : y - takes op + puts op = d at *
              by_cases h12 : op = 12
              · subst h12
                obtain ⟨a, rfl⟩ : ∃ a : Nat, nn = a := ⟨nn.toNat, by omega⟩
                have ha : (a : Int) < (l.length + 1 : Nat) := by omega
                rw [g12 rfl, Int.toNat_natCast] at h5
                obtain ⟨y1, hy1⟩ := get_some (hs := hs) (i := a) (by simp only [h2]; omega)
                have yb1 := h3.get hy1
                have hy1' : ((hs).map fun v => [AV.i v])[a]? = some [AV.i y1] := by rw [List.getElem?_map, hy1]; rfl
                by_cases hn1 : y1 < 0
                · have hm1 : ¬ 0 ≤ y1 := by omega
                  rw [reachS_ok hy1 (.inl (by omega))] at h5
                  simp only at h5
                  have hlen2 : (hs.set a d).length = l.length + 1 := by simp [h2]
                  obtain ⟨y2, hy2⟩ := get_some (hs := hs.set a d) (i := i + 1) (by simp only [List.length_set, h2]; omega)
                  have yb2 := (h3.set a hdb).get hy2
                  have hy2' : ((hs.set a d).map fun v => [AV.i v])[i + 1]? = some [AV.i y2] := by rw [List.getElem?_map, hy2]; rfl
                  by_cases hn2 : y2 < 0
                  · have hm2 : ¬ 0 ≤ y2 := by omega
                    rw [reachS_ok hy2 (.inl (by omega))] at h5
                    simp only at h5
                    repeat' (first | refine awp_seq ?_ | refine awp_block ?_ | refine awp_scope ?_ | ((first | refine awp_region_k fun Kn Kp hn hp => ?_ | refine oge_intro (by assumption) ?_ | (show AWE _ _ _ _ _ _ _ _ _; first | refine awe_intro (hins _) ?_ | refine awe_intro (htk _) ?_) | (show AWSF _ _ _ _ _ _ _ _ _ _ _; first | refine awsf_intro (hins _) (fun hrun => ?_) | refine awsf_intro (htk _) (fun hrun => ?_)) | (show OGE _ _ _ _ _ _ _; first | refine oge_intro (hins _) ?_ | refine oge_intro (htk _) ?_) | (show AWSE _ _ _ _ _ _ _ _ _ _ _; first | refine awse_intro (hins _) (fun hrun => ?_) | refine awse_intro (htk _) (fun hrun => ?_)) | (show PGE _ _ _ _ _; first | refine pge_intro (hins _) (fun tm' => ?_) | refine pge_intro (htk _) (fun tm' => ?_))) <;> (simp only [go_sem, Nat.reduceAdd, Nat.reduceSub, Nat.reduceMul, Nat.reduceLeDiff, Nat.reduceLT, Nat.reduceEqDiff, Int.reduceToNat, Int.reduceAdd, Int.reduceMul, Int.reduceSub, Int.reduceLT, Int.reduceLE, Int.reduceEq, Int.reduceNeg, Int.reduceBEq, Int.reduceBNe, ↓reduceIte, reduceCtorEq, hdd, hlt, List.length_map, h2, hil, hx', hy', hy0, hty, hdp, wy1, wy2, hw1, hi1, Option.map_some, row_set, Int.toNat_natCast, ha, hy1', hm1, ha, List.length_set, hlen2, hy2', hm2] <;> try simp (disch := omega) only [wrap_of])) | (refine hn _ _ ?_; clear hn hp Kn Kp) | (refine hp _ _ _ ?_; clear hn hp Kn Kp) | (refine awp_cond rfl (fun hb => ?_) (fun hb => ?_) <;> (try simp only [decide_eq_true_eq, decide_eq_false_iff_not, Bool.not_eq_true', Bool.not_eq_false', Bool.true_eq_false, Bool.false_eq_true, beq_iff_eq, bne_iff_ne, bne_eq_false_iff_eq, beq_eq_false_iff_ne, gt_iff_lt, ge_iff_le, Int.reduceEq, Int.reduceNe, Int.reduceLT, Int.reduceLE, ne_eq, not_true_eq_false, not_false_eq_true] at hb)) | ((first | refine awg_split (fun hb => ?_) (fun hb => ?_) | refine awsg_split (fun hb => ?_) (fun hb => ?_)) <;> have hb0 := hb <;> (try simp only [decide_eq_true_eq, decide_eq_false_iff_not, Bool.not_eq_true', Bool.not_eq_false', Bool.true_eq_false, Bool.false_eq_true, beq_iff_eq, bne_iff_ne, bne_eq_false_iff_eq, beq_eq_false_iff_ne, gt_iff_lt, ge_iff_le, Int.reduceEq, Int.reduceNe, Int.reduceLT, Int.reduceLE, ne_eq, not_true_eq_false, not_false_eq_true] at hb0) <;> (try simp only [beq_true, beq_false, Bool.not_eq_true', Bool.not_eq_false'] at hb) <;> (simp only [go_sem, Nat.reduceAdd, Nat.reduceSub, Nat.reduceMul, Nat.reduceLeDiff, Nat.reduceLT, Nat.reduceEqDiff, Int.reduceToNat, Int.reduceAdd, Int.reduceMul, Int.reduceSub, Int.reduceLT, Int.reduceLE, Int.reduceEq, Int.reduceNeg, Int.reduceBEq, Int.reduceBNe, ↓reduceIte, reduceCtorEq, hdd, hlt, List.length_map, h2, hil, hx', hy', hy0, hty, hdp, wy1, wy2, hw1, hi1, Option.map_some, row_set, Int.toNat_natCast, ha, hy1', hm1, ha, List.length_set, hlen2, hy2', hm2, hb, hb0] <;> try simp (disch := omega) only [wrap_of])) | (refine And.intro ?_ ?_) | refine awp_skip ?_ | refine awp_ret ?_ | refine awp_exit ?_ | refine awp_label ?_ | refine awloop_step ?_ | fail)
                    refine ⟨(i + 1, (hs.set a d).set (i + 1) d), by simp only; omega, ⟨by simp only; omega, by simp [h2], (h3.set a hdb).set _ hdb, by simp only; rw [hd]; exact h5⟩, ?_⟩
                    refine Wk.keepE 1 1 (by simp) (by simp) (by intro o ho; rw [List.mem_singleton] at ho; subst ho; exact row_under) ?_
                    simp only [List.map_cons, List.map_nil, AV.low, Fgt, Nat.lt_add_one, if_true, true_or, or_true, and_true, true_and]
                  have hp2 : 0 ≤ y2 := by omega
                  by_cases hq2 : y2 = d
                  · have hqb2 : (y2 != d) = false := by simp [hq2]
                    rw [reachS_ok hy2 (.inr hq2)] at h5
                    simp only at h5
                    repeat' (first | refine awp_seq ?_ | refine awp_block ?_ | refine awp_scope ?_ | ((first | refine awp_region_k fun Kn Kp hn hp => ?_ | refine oge_intro (by assumption) ?_ | (show AWE _ _ _ _ _ _ _ _ _; first | refine awe_intro (hins _) ?_ | refine awe_intro (htk _) ?_) | (show AWSF _ _ _ _ _ _ _ _ _ _ _; first | refine awsf_intro (hins _) (fun hrun => ?_) | refine awsf_intro (htk _) (fun hrun => ?_)) | (show OGE _ _ _ _ _ _ _; first | refine oge_intro (hins _) ?_ | refine oge_intro (htk _) ?_) | (show AWSE _ _ _ _ _ _ _ _ _ _ _; first | refine awse_intro (hins _) (fun hrun => ?_) | refine awse_intro (htk _) (fun hrun => ?_)) | (show PGE _ _ _ _ _; first | refine pge_intro (hins _) (fun tm' => ?_) | refine pge_intro (htk _) (fun tm' => ?_))) <;> (simp only [go_sem, Nat.reduceAdd, Nat.reduceSub, Nat.reduceMul, Nat.reduceLeDiff, Nat.reduceLT, Nat.reduceEqDiff, Int.reduceToNat, Int.reduceAdd, Int.reduceMul, Int.reduceSub, Int.reduceLT, Int.reduceLE, Int.reduceEq, Int.reduceNeg, Int.reduceBEq, Int.reduceBNe, ↓reduceIte, reduceCtorEq, hdd, hlt, List.length_map, h2, hil, hx', hy', hy0, hty, hdp, wy1, wy2, hw1, hi1, Option.map_some, row_set, Int.toNat_natCast, ha, hy1', hm1, ha, List.length_set, hlen2, hy2', hp2, hqb2] <;> try simp (disch := omega) only [wrap_of])) | (refine hn _ _ ?_; clear hn hp Kn Kp) | (refine hp _ _ _ ?_; clear hn hp Kn Kp) | (refine awp_cond rfl (fun hb => ?_) (fun hb => ?_) <;> (try simp only [decide_eq_true_eq, decide_eq_false_iff_not, Bool.not_eq_true', Bool.not_eq_false', Bool.true_eq_false, Bool.false_eq_true, beq_iff_eq, bne_iff_ne, bne_eq_false_iff_eq, beq_eq_false_iff_ne, gt_iff_lt, ge_iff_le, Int.reduceEq, Int.reduceNe, Int.reduceLT, Int.reduceLE, ne_eq, not_true_eq_false, not_false_eq_true] at hb)) | ((first | refine awg_split (fun hb => ?_) (fun hb => ?_) | refine awsg_split (fun hb => ?_) (fun hb => ?_)) <;> have hb0 := hb <;> (try simp only [decide_eq_true_eq, decide_eq_false_iff_not, Bool.not_eq_true', Bool.not_eq_false', Bool.true_eq_false, Bool.false_eq_true, beq_iff_eq, bne_iff_ne, bne_eq_false_iff_eq, beq_eq_false_iff_ne, gt_iff_lt, ge_iff_le, Int.reduceEq, Int.reduceNe, Int.reduceLT, Int.reduceLE, ne_eq, not_true_eq_false, not_false_eq_true] at hb0) <;> (try simp only [beq_true, beq_false, Bool.not_eq_true', Bool.not_eq_false'] at hb) <;> (simp only [go_sem, Nat.reduceAdd, Nat.reduceSub, Nat.reduceMul, Nat.reduceLeDiff, Nat.reduceLT, Nat.reduceEqDiff, Int.reduceToNat, Int.reduceAdd, Int.reduceMul, Int.reduceSub, Int.reduceLT, Int.reduceLE, Int.reduceEq, Int.reduceNeg, Int.reduceBEq, Int.reduceBNe, ↓reduceIte, reduceCtorEq, hdd, hlt, List.length_map, h2, hil, hx', hy', hy0, hty, hdp, wy1, wy2, hw1, hi1, Option.map_some, row_set, Int.toNat_natCast, ha, hy1', hm1, ha, List.length_set, hlen2, hy2', hp2, hqb2, hb, hb0] <;> try simp (disch := omega) only [wrap_of])) | (refine And.intro ?_ ?_) | refine awp_skip ?_ | refine awp_ret ?_ | refine awp_exit ?_ | refine awp_label ?_ | refine awloop_step ?_ | fail)
                    refine ⟨(i + 1, (hs.set a d).set (i + 1) d), by simp only; omega, ⟨by simp only; omega, by simp [h2], (h3.set a hdb).set _ hdb, by simp only; rw [hd]; exact h5⟩, ?_⟩
                    refine Wk.keepE 1 1 (by simp) (by simp) (by intro o ho; rw [List.mem_singleton] at ho; subst ho; exact row_under) ?_
                    simp only [List.map_cons, List.map_nil, AV.low, Fgt, Nat.lt_add_one, if_true, true_or, or_true, and_true, true_and]
                  · have hqb2 : (y2 != d) = true := by simp [hq2]
                    rw [reachS_no hy2 (by omega)] at h5
                    simp only at h5
                    rw [h5]
                    repeat' (first | refine awp_seq ?_ | refine awp_block ?_ | refine awp_scope ?_ | ((first | refine awp_region_k fun Kn Kp hn hp => ?_ | refine oge_intro (by assumption) ?_ | (show AWE _ _ _ _ _ _ _ _ _; first | refine awe_intro (hins _) ?_ | refine awe_intro (htk _) ?_) | (show AWSF _ _ _ _ _ _ _ _ _ _ _; first | refine awsf_intro (hins _) (fun hrun => ?_) | refine awsf_intro (htk _) (fun hrun => ?_)) | (show OGE _ _ _ _ _ _ _; first | refine oge_intro (hins _) ?_ | refine oge_intro (htk _) ?_) | (show AWSE _ _ _ _ _ _ _ _ _ _ _; first | refine awse_intro (hins _) (fun hrun => ?_) | refine awse_intro (htk _) (fun hrun => ?_)) | (show PGE _ _ _ _ _; first | refine pge_intro (hins _) (fun tm' => ?_) | refine pge_intro (htk _) (fun tm' => ?_))) <;> (simp only [go_sem, Nat.reduceAdd, Nat.reduceSub, Nat.reduceMul, Nat.reduceLeDiff, Nat.reduceLT, Nat.reduceEqDiff, Int.reduceToNat, Int.reduceAdd, Int.reduceMul, Int.reduceSub, Int.reduceLT, Int.reduceLE, Int.reduceEq, Int.reduceNeg, Int.reduceBEq, Int.reduceBNe, ↓reduceIte, reduceCtorEq, hdd, hlt, List.length_map, h2, hil, hx', hy', hy0, hty, hdp, wy1, wy2, hw1, hi1, Option.map_some, row_set, Int.toNat_natCast, ha, hy1', hm1, ha, List.length_set, hlen2, hy2', hp2, hqb2] <;> try simp (disch := omega) only [wrap_of])) | (refine hn _ _ ?_; clear hn hp Kn Kp) | (refine hp _ _ _ ?_; clear hn hp Kn Kp) | (refine awp_cond rfl (fun hb => ?_) (fun hb => ?_) <;> (try simp only [decide_eq_true_eq, decide_eq_false_iff_not, Bool.not_eq_true', Bool.not_eq_false', Bool.true_eq_false, Bool.false_eq_true, beq_iff_eq, bne_iff_ne, bne_eq_false_iff_eq, beq_eq_false_iff_ne, gt_iff_lt, ge_iff_le, Int.reduceEq, Int.reduceNe, Int.reduceLT, Int.reduceLE, ne_eq, not_true_eq_false, not_false_eq_true] at hb)) | ((first | refine awg_split (fun hb => ?_) (fun hb => ?_) | refine awsg_split (fun hb => ?_) (fun hb => ?_)) <;> have hb0 := hb <;> (try simp only [decide_eq_true_eq, decide_eq_false_iff_not, Bool.not_eq_true', Bool.not_eq_false', Bool.true_eq_false, Bool.false_eq_true, beq_iff_eq, bne_iff_ne, bne_eq_false_iff_eq, beq_eq_false_iff_ne, gt_iff_lt, ge_iff_le, Int.reduceEq, Int.reduceNe, Int.reduceLT, Int.reduceLE, ne_eq, not_true_eq_false, not_false_eq_true] at hb0) <;> (try simp only [beq_true, beq_false, Bool.not_eq_true', Bool.not_eq_false'] at hb) <;> (simp only [go_sem, Nat.reduceAdd, Nat.reduceSub, Nat.reduceMul, Nat.reduceLeDiff, Nat.reduceLT, Nat.reduceEqDiff, Int.reduceToNat, Int.reduceAdd, Int.reduceMul, Int.reduceSub, Int.reduceLT, Int.reduceLE, Int.reduceEq, Int.reduceNeg, Int.reduceBEq, Int.reduceBNe, ↓reduceIte, reduceCtorEq, hdd, hlt, List.length_map, h2, hil, hx', hy', hy0, hty, hdp, wy1, wy2, hw1, hi1, Option.map_some, row_set, Int.toNat_natCast, ha, hy1', hm1, ha, List.length_set, hlen2, hy2', hp2, hqb2, hb, hb0] <;> try simp (disch := omega) only [wrap_of])) | (refine And.intro ?_ ?_) | refine awp_skip ?_ | refine awp_ret ?_ | refine awp_exit ?_ | refine awp_label ?_ | refine awloop_step ?_ | fail)
                    (refine resX ?_; try exact True.intro)
                have hp1 : 0 ≤ y1 := by omega
                by_cases hq1 : y1 = d
                · have hqb1 : (y1 != d) = false := by simp [hq1]
                  rw [reachS_ok hy1 (.inr hq1)] at h5
                  simp only at h5
                  have hlen2 : (hs.set a d).length = l.length + 1 := by simp [h2]
                  obtain ⟨y2, hy2⟩ := get_some (hs := hs.set a d) (i := i + 1) (by simp only [List.length_set, h2]; omega)
                  have yb2 := (h3.set a hdb).get hy2
                  have hy2' : ((hs.set a d).map fun v => [AV.i v])[i + 1]? = some [AV.i y2] := by rw [List.getElem?_map, hy2]; rfl
                  by_cases hn2 : y2 < 0
                  · have hm2 : ¬ 0 ≤ y2 := by omega
                    rw [reachS_ok hy2 (.inl (by omega))] at h5
                    simp only at h5
                    repeat' (first | refine awp_seq ?_ | refine awp_block ?_ | refine awp_scope ?_ | ((first | refine awp_region_k fun Kn Kp hn hp => ?_ | refine oge_intro (by assumption) ?_ | (show AWE _ _ _ _ _ _ _ _ _; first | refine awe_intro (hins _) ?_ | refine awe_intro (htk _) ?_) | (show AWSF _ _ _ _ _ _ _ _ _ _ _; first | refine awsf_intro (hins _) (fun hrun => ?_) | refine awsf_intro (htk _) (fun hrun => ?_)) | (show OGE _ _ _ _ _ _ _; first | refine oge_intro (hins _) ?_ | refine oge_intro (htk _) ?_) | (show AWSE _ _ _ _ _ _ _ _ _ _ _; first | refine awse_intro (hins _) (fun hrun => ?_) | refine awse_intro (htk _) (fun hrun => ?_)) | (show PGE _ _ _ _ _; first | refine pge_intro (hins _) (fun tm' => ?_) | refine pge_intro (htk _) (fun tm' => ?_))) <;> (simp only [go_sem, Nat.reduceAdd, Nat.reduceSub, Nat.reduceMul, Nat.reduceLeDiff, Nat.reduceLT, Nat.reduceEqDiff, Int.reduceToNat, Int.reduceAdd, Int.reduceMul, Int.reduceSub, Int.reduceLT, Int.reduceLE, Int.reduceEq, Int.reduceNeg, Int.reduceBEq, Int.reduceBNe, ↓reduceIte, reduceCtorEq, hdd, hlt, List.length_map, h2, hil, hx', hy', hy0, hty, hdp, wy1, wy2, hw1, hi1, Option.map_some, row_set, Int.toNat_natCast, ha, hy1', hp1, hqb1, ha, List.length_set, hlen2, hy2', hm2] <;> try simp (disch := omega) only [wrap_of])) | (refine hn _ _ ?_; clear hn hp Kn Kp) | (refine hp _ _ _ ?_; clear hn hp Kn Kp) | (refine awp_cond rfl (fun hb => ?_) (fun hb => ?_) <;> (try simp only [decide_eq_true_eq, decide_eq_false_iff_not, Bool.not_eq_true', Bool.not_eq_false', Bool.true_eq_false, Bool.false_eq_true, beq_iff_eq, bne_iff_ne, bne_eq_false_iff_eq, beq_eq_false_iff_ne, gt_iff_lt, ge_iff_le, Int.reduceEq, Int.reduceNe, Int.reduceLT, Int.reduceLE, ne_eq, not_true_eq_false, not_false_eq_true] at hb)) | ((first | refine awg_split (fun hb => ?_) (fun hb => ?_) | refine awsg_split (fun hb => ?_) (fun hb => ?_)) <;> have hb0 := hb <;> (try simp only [decide_eq_true_eq, decide_eq_false_iff_not, Bool.not_eq_true', Bool.not_eq_false', Bool.true_eq_false, Bool.false_eq_true, beq_iff_eq, bne_iff_ne, bne_eq_false_iff_eq, beq_eq_false_iff_ne, gt_iff_lt, ge_iff_le, Int.reduceEq, Int.reduceNe, Int.reduceLT, Int.reduceLE, ne_eq, not_true_eq_false, not_false_eq_true] at hb0) <;> (try simp only [beq_true, beq_false, Bool.not_eq_true', Bool.not_eq_false'] at hb) <;> (simp only [go_sem, Nat.reduceAdd, Nat.reduceSub, Nat.reduceMul, Nat.reduceLeDiff, Nat.reduceLT, Nat.reduceEqDiff, Int.reduceToNat, Int.reduceAdd, Int.reduceMul, Int.reduceSub, Int.reduceLT, Int.reduceLE, Int.reduceEq, Int.reduceNeg, Int.reduceBEq, Int.reduceBNe, ↓reduceIte, reduceCtorEq, hdd, hlt, List.length_map, h2, hil, hx', hy', hy0, hty, hdp, wy1, wy2, hw1, hi1, Option.map_some, row_set, Int.toNat_natCast, ha, hy1', hp1, hqb1, ha, List.length_set, hlen2, hy2', hm2, hb, hb0] <;> try simp (disch := omega) only [wrap_of])) | (refine And.intro ?_ ?_) | refine awp_skip ?_ | refine awp_ret ?_ | refine awp_exit ?_ | refine awp_label ?_ | refine awloop_step ?_ | fail)
                    refine ⟨(i + 1, (hs.set a d).set (i + 1) d), by simp only; omega, ⟨by simp only; omega, by simp [h2], (h3.set a hdb).set _ hdb, by simp only; rw [hd]; exact h5⟩, ?_⟩
                    refine Wk.keepE 1 1 (by simp) (by simp) (by intro o ho; rw [List.mem_singleton] at ho; subst ho; exact row_under) ?_
                    simp only [List.map_cons, List.map_nil, AV.low, Fgt, Nat.lt_add_one, if_true, true_or, or_true, and_true, true_and]
                  have hp2 : 0 ≤ y2 := by omega
                  by_cases hq2 : y2 = d
                  · have hqb2 : (y2 != d) = false := by simp [hq2]
                    rw [reachS_ok hy2 (.inr hq2)] at h5
                    simp only at h5
                    repeat' (first | refine awp_seq ?_ | refine awp_block ?_ | refine awp_scope ?_ | ((first | refine awp_region_k fun Kn Kp hn hp => ?_ | refine oge_intro (by assumption) ?_ | (show AWE _ _ _ _ _ _ _ _ _; first | refine awe_intro (hins _) ?_ | refine awe_intro (htk _) ?_) | (show AWSF _ _ _ _ _ _ _ _ _ _ _; first | refine awsf_intro (hins _) (fun hrun => ?_) | refine awsf_intro (htk _) (fun hrun => ?_)) | (show OGE _ _ _ _ _ _ _; first | refine oge_intro (hins _) ?_ | refine oge_intro (htk _) ?_) | (show AWSE _ _ _ _ _ _ _ _ _ _ _; first | refine awse_intro (hins _) (fun hrun => ?_) | refine awse_intro (htk _) (fun hrun => ?_)) | (show PGE _ _ _ _ _; first | refine pge_intro (hins _) (fun tm' => ?_) | refine pge_intro (htk _) (fun tm' => ?_))) <;> (simp only [go_sem, Nat.reduceAdd, Nat.reduceSub, Nat.reduceMul, Nat.reduceLeDiff, Nat.reduceLT, Nat.reduceEqDiff, Int.reduceToNat, Int.reduceAdd, Int.reduceMul, Int.reduceSub, Int.reduceLT, Int.reduceLE, Int.reduceEq, Int.reduceNeg, Int.reduceBEq, Int.reduceBNe, ↓reduceIte, reduceCtorEq, hdd, hlt, List.length_map, h2, hil, hx', hy', hy0, hty, hdp, wy1, wy2, hw1, hi1, Option.map_some, row_set, Int.toNat_natCast, ha, hy1', hp1, hqb1, ha, List.length_set, hlen2, hy2', hp2, hqb2] <;> try simp (disch := omega) only [wrap_of])) | (refine hn _ _ ?_; clear hn hp Kn Kp) | (refine hp _ _ _ ?_; clear hn hp Kn Kp) | (refine awp_cond rfl (fun hb => ?_) (fun hb => ?_) <;> (try simp only [decide_eq_true_eq, decide_eq_false_iff_not, Bool.not_eq_true', Bool.not_eq_false', Bool.true_eq_false, Bool.false_eq_true, beq_iff_eq, bne_iff_ne, bne_eq_false_iff_eq, beq_eq_false_iff_ne, gt_iff_lt, ge_iff_le, Int.reduceEq, Int.reduceNe, Int.reduceLT, Int.reduceLE, ne_eq, not_true_eq_false, not_false_eq_true] at hb)) | ((first | refine awg_split (fun hb => ?_) (fun hb => ?_) | refine awsg_split (fun hb => ?_) (fun hb => ?_)) <;> have hb0 := hb <;> (try simp only [decide_eq_true_eq, decide_eq_false_iff_not, Bool.not_eq_true', Bool.not_eq_false', Bool.true_eq_false, Bool.false_eq_true, beq_iff_eq, bne_iff_ne, bne_eq_false_iff_eq, beq_eq_false_iff_ne, gt_iff_lt, ge_iff_le, Int.reduceEq, Int.reduceNe, Int.reduceLT, Int.reduceLE, ne_eq, not_true_eq_false, not_false_eq_true] at hb0) <;> (try simp only [beq_true, beq_false, Bool.not_eq_true', Bool.not_eq_false'] at hb) <;> (simp only [go_sem, Nat.reduceAdd, Nat.reduceSub, Nat.reduceMul, Nat.reduceLeDiff, Nat.reduceLT, Nat.reduceEqDiff, Int.reduceToNat, Int.reduceAdd, Int.reduceMul, Int.reduceSub, Int.reduceLT, Int.reduceLE, Int.reduceEq, Int.reduceNeg, Int.reduceBEq, Int.reduceBNe, ↓reduceIte, reduceCtorEq, hdd, hlt, List.length_map, h2, hil, hx', hy', hy0, hty, hdp, wy1, wy2, hw1, hi1, Option.map_some, row_set, Int.toNat_natCast, ha, hy1', hp1, hqb1, ha, List.length_set, hlen2, hy2', hp2, hqb2, hb, hb0] <;> try simp (disch := omega) only [wrap_of])) | (refine And.intro ?_ ?_) | refine awp_skip ?_ | refine awp_ret ?_ | refine awp_exit ?_ | refine awp_label ?_ | refine awloop_step ?_ | fail)
                    refine ⟨(i + 1, (hs.set a d).set (i + 1) d), by simp only; omega, ⟨by simp only; omega, by simp [h2], (h3.set a hdb).set _ hdb, by simp only; rw [hd]; exact h5⟩, ?_⟩
                    refine Wk.keepE 1 1 (by simp) (by simp) (by intro o ho; rw [List.mem_singleton] at ho; subst ho; exact row_under) ?_
                    simp only [List.map_cons, List.map_nil, AV.low, Fgt, Nat.lt_add_one, if_true, true_or, or_true, and_true, true_and]
                  · have hqb2 : (y2 != d) = true := by simp [hq2]
                    rw [reachS_no hy2 (by omega)] at h5
                    simp only at h5
                    rw [h5]
                    repeat' (first | refine awp_seq ?_ | refine awp_block ?_ | refine awp_scope ?_ | ((first | refine awp_region_k fun Kn Kp hn hp => ?_ | refine oge_intro (by assumption) ?_ | (show AWE _ _ _ _ _ _ _ _ _; first | refine awe_intro (hins _) ?_ | refine awe_intro (htk _) ?_) | (show AWSF _ _ _ _ _ _ _ _ _ _ _; first | refine awsf_intro (hins _) (fun hrun => ?_) | refine awsf_intro (htk _) (fun hrun => ?_)) | (show OGE _ _ _ _ _ _ _; first | refine oge_intro (hins _) ?_ | refine oge_intro (htk _) ?_) | (show AWSE _ _ _ _ _ _ _ _ _ _ _; first | refine awse_intro (hins _) (fun hrun => ?_) | refine awse_intro (htk _) (fun hrun => ?_)) | (show PGE _ _ _ _ _; first | refine pge_intro (hins _) (fun tm' => ?_) | refine pge_intro (htk _) (fun tm' => ?_))) <;> (simp only [go_sem, Nat.reduceAdd, Nat.reduceSub, Nat.reduceMul, Nat.reduceLeDiff, Nat.reduceLT, Nat.reduceEqDiff, Int.reduceToNat, Int.reduceAdd, Int.reduceMul, Int.reduceSub, Int.reduceLT, Int.reduceLE, Int.reduceEq, Int.reduceNeg, Int.reduceBEq, Int.reduceBNe, ↓reduceIte, reduceCtorEq, hdd, hlt, List.length_map, h2, hil, hx', hy', hy0, hty, hdp, wy1, wy2, hw1, hi1, Option.map_some, row_set, Int.toNat_natCast, ha, hy1', hp1, hqb1, ha, List.length_set, hlen2, hy2', hp2, hqb2] <;> try simp (disch := omega) only [wrap_of])) | (refine hn _ _ ?_; clear hn hp Kn Kp) | (refine hp _ _ _ ?_; clear hn hp Kn Kp) | (refine awp_cond rfl (fun hb => ?_) (fun hb => ?_) <;> (try simp only [decide_eq_true_eq, decide_eq_false_iff_not, Bool.not_eq_true', Bool.not_eq_false', Bool.true_eq_false, Bool.false_eq_true, beq_iff_eq, bne_iff_ne, bne_eq_false_iff_eq, beq_eq_false_iff_ne, gt_iff_lt, ge_iff_le, Int.reduceEq, Int.reduceNe, Int.reduceLT, Int.reduceLE, ne_eq, not_true_eq_false, not_false_eq_true] at hb)) | ((first | refine awg_split (fun hb => ?_) (fun hb => ?_) | refine awsg_split (fun hb => ?_) (fun hb => ?_)) <;> have hb0 := hb <;> (try simp only [decide_eq_true_eq, decide_eq_false_iff_not, Bool.not_eq_true', Bool.not_eq_false', Bool.true_eq_false, Bool.false_eq_true, beq_iff_eq, bne_iff_ne, bne_eq_false_iff_eq, beq_eq_false_iff_ne, gt_iff_lt, ge_iff_le, Int.reduceEq, Int.reduceNe, Int.reduceLT, Int.reduceLE, ne_eq, not_true_eq_false, not_false_eq_true] at hb0) <;> (try simp only [beq_true, beq_false, Bool.not_eq_true', Bool.not_eq_false'] at hb) <;> (simp only [go_sem, Nat.reduceAdd, Nat.reduceSub, Nat.reduceMul, Nat.reduceLeDiff, Nat.reduceLT, Nat.reduceEqDiff, Int.reduceToNat, Int.reduceAdd, Int.reduceMul, Int.reduceSub, Int.reduceLT, Int.reduceLE, Int.reduceEq, Int.reduceNeg, Int.reduceBEq, Int.reduceBNe, ↓reduceIte, reduceCtorEq, hdd, hlt, List.length_map, h2, hil, hx', hy', hy0, hty, hdp, wy1, wy2, hw1, hi1, Option.map_some, row_set, Int.toNat_natCast, ha, hy1', hp1, hqb1, ha, List.length_set, hlen2, hy2', hp2, hqb2, hb, hb0] <;> try simp (disch := omega) only [wrap_of])) | (refine And.intro ?_ ?_) | refine awp_skip ?_ | refine awp_ret ?_ | refine awp_exit ?_ | refine awp_label ?_ | refine awloop_step ?_ | fail)
                    (refine resX ?_; try exact True.intro)
                · have hqb1 : (y1 != d) = true := by simp [hq1]
                  rw [reachS_no hy1 (by omega)] at h5
                  simp only at h5
                  rw [h5]
                  repeat' (first | refine awp_seq ?_ | refine awp_block ?_ | refine awp_scope ?_ | ((first | refine awp_region_k fun Kn Kp hn hp => ?_ | refine oge_intro (by assumption) ?_ | (show AWE _ _ _ _ _ _ _ _ _; first | refine awe_intro (hins _) ?_ | refine awe_intro (htk _) ?_) | (show AWSF _ _ _ _ _ _ _ _ _ _ _; first | refine awsf_intro (hins _) (fun hrun => ?_) | refine awsf_intro (htk _) (fun hrun => ?_)) | (show OGE _ _ _ _ _ _ _; first | refine oge_intro (hins _) ?_ | refine oge_intro (htk _) ?_) | (show AWSE _ _ _ _ _ _ _ _ _ _ _; first | refine awse_intro (hins _) (fun hrun => ?_) | refine awse_intro (htk _) (fun hrun => ?_)) | (show PGE _ _ _ _ _; first | refine pge_intro (hins _) (fun tm' => ?_) | refine pge_intro (htk _) (fun tm' => ?_))) <;> (simp only [go_sem, Nat.reduceAdd, Nat.reduceSub, Nat.reduceMul, Nat.reduceLeDiff, Nat.reduceLT, Nat.reduceEqDiff, Int.reduceToNat, Int.reduceAdd, Int.reduceMul, Int.reduceSub, Int.reduceLT, Int.reduceLE, Int.reduceEq, Int.reduceNeg, Int.reduceBEq, Int.reduceBNe, ↓reduceIte, reduceCtorEq, hdd, hlt, List.length_map, h2, hil, hx', hy', hy0, hty, hdp, wy1, wy2, hw1, hi1, Option.map_some, row_set, Int.toNat_natCast, ha, hy1', hp1, hqb1] <;> try simp (disch := omega) only [wrap_of])) | (refine hn _ _ ?_; clear hn hp Kn Kp) | (refine hp _ _ _ ?_; clear hn hp Kn Kp) | (refine awp_cond rfl (fun hb => ?_) (fun hb => ?_) <;> (try simp only [decide_eq_true_eq, decide_eq_false_iff_not, Bool.not_eq_true', Bool.not_eq_false', Bool.true_eq_false, Bool.false_eq_true, beq_iff_eq, bne_iff_ne, bne_eq_false_iff_eq, beq_eq_false_iff_ne, gt_iff_lt, ge_iff_le, Int.reduceEq, Int.reduceNe, Int.reduceLT, Int.reduceLE, ne_eq, not_true_eq_false, not_false_eq_true] at hb)) | ((first | refine awg_split (fun hb => ?_) (fun hb => ?_) | refine awsg_split (fun hb => ?_) (fun hb => ?_)) <;> have hb0 := hb <;> (try simp only [decide_eq_true_eq, decide_eq_false_iff_not, Bool.not_eq_true', Bool.not_eq_false', Bool.true_eq_false, Bool.false_eq_true, beq_iff_eq, bne_iff_ne, bne_eq_false_iff_eq, beq_eq_false_iff_ne, gt_iff_lt, ge_iff_le, Int.reduceEq, Int.reduceNe, Int.reduceLT, Int.reduceLE, ne_eq, not_true_eq_false, not_false_eq_true] at hb0) <;> (try simp only [beq_true, beq_false, Bool.not_eq_true', Bool.not_eq_false'] at hb) <;> (simp only [go_sem, Nat.reduceAdd, Nat.reduceSub, Nat.reduceMul, Nat.reduceLeDiff, Nat.reduceLT, Nat.reduceEqDiff, Int.reduceToNat, Int.reduceAdd, Int.reduceMul, Int.reduceSub, Int.reduceLT, Int.reduceLE, Int.reduceEq, Int.reduceNeg, Int.reduceBEq, Int.reduceBNe, ↓reduceIte, reduceCtorEq, hdd, hlt, List.length_map, h2, hil, hx', hy', hy0, hty, hdp, wy1, wy2, hw1, hi1, Option.map_some, row_set, Int.toNat_natCast, ha, hy1', hp1, hqb1, hb, hb0] <;> try simp (disch := omega) only [wrap_of])) | (refine And.intro ?_ ?_) | refine awp_skip ?_ | refine awp_ret ?_ | refine awp_exit ?_ | refine awp_label ?_ | refine awloop_step ?_ | fail)
                  (refine resX ?_; try exact True.intro)
              by_cases h13 : op = 13
              · subst h13
                obtain ⟨a, rfl⟩ : ∃ a : Nat, nn = a := ⟨nn.toNat, by omega⟩
                have ha : (a : Int) < (l.length + 1 : Nat) := by omega
                rw [g13 rfl, Int.toNat_natCast] at h5
                obtain ⟨y1, hy1⟩ := get_some (hs := hs) (i := a) (by simp only [h2]; omega)
                have yb1 := h3.get hy1
                have hy1' : ((hs).map fun v => [AV.i v])[a]? = some [AV.i y1] := by rw [List.getElem?_map, hy1]; rfl
                by_cases hn1 : y1 < 0
                · have hm1 : ¬ 0 ≤ y1 := by omega
                  rw [reachS_ok hy1 (.inl (by omega))] at h5
                  simp only at h5
                  repeat' (first | refine awp_seq ?_ | refine awp_block ?_ | refine awp_scope ?_ | ((first | refine awp_region_k fun Kn Kp hn hp => ?_ | refine oge_intro (by assumption) ?_ | (show AWE _ _ _ _ _ _ _ _ _; first | refine awe_intro (hins _) ?_ | refine awe_intro (htk _) ?_) | (show AWSF _ _ _ _ _ _ _ _ _ _ _; first | refine awsf_intro (hins _) (fun hrun => ?_) | refine awsf_intro (htk _) (fun hrun => ?_)) | (show OGE _ _ _ _ _ _ _; first | refine oge_intro (hins _) ?_ | refine oge_intro (htk _) ?_) | (show AWSE _ _ _ _ _ _ _ _ _ _ _; first | refine awse_intro (hins _) (fun hrun => ?_) | refine awse_intro (htk _) (fun hrun => ?_)) | (show PGE _ _ _ _ _; first | refine pge_intro (hins _) (fun tm' => ?_) | refine pge_intro (htk _) (fun tm' => ?_))) <;> (simp only [go_sem, Nat.reduceAdd, Nat.reduceSub, Nat.reduceMul, Nat.reduceLeDiff, Nat.reduceLT, Nat.reduceEqDiff, Int.reduceToNat, Int.reduceAdd, Int.reduceMul, Int.reduceSub, Int.reduceLT, Int.reduceLE, Int.reduceEq, Int.reduceNeg, Int.reduceBEq, Int.reduceBNe, ↓reduceIte, reduceCtorEq, hdd, hlt, List.length_map, h2, hil, hx', hy', hy0, hty, hdp, wy1, wy2, hw1, hi1, Option.map_some, row_set, Int.toNat_natCast, ha, hy1', hm1] <;> try simp (disch := omega) only [wrap_of])) | (refine hn _ _ ?_; clear hn hp Kn Kp) | (refine hp _ _ _ ?_; clear hn hp Kn Kp) | (refine awp_cond rfl (fun hb => ?_) (fun hb => ?_) <;> (try simp only [decide_eq_true_eq, decide_eq_false_iff_not, Bool.not_eq_true', Bool.not_eq_false', Bool.true_eq_false, Bool.false_eq_true, beq_iff_eq, bne_iff_ne, bne_eq_false_iff_eq, beq_eq_false_iff_ne, gt_iff_lt, ge_iff_le, Int.reduceEq, Int.reduceNe, Int.reduceLT, Int.reduceLE, ne_eq, not_true_eq_false, not_false_eq_true] at hb)) | ((first | refine awg_split (fun hb => ?_) (fun hb => ?_) | refine awsg_split (fun hb => ?_) (fun hb => ?_)) <;> have hb0 := hb <;> (try simp only [decide_eq_true_eq, decide_eq_false_iff_not, Bool.not_eq_true', Bool.not_eq_false', Bool.true_eq_false, Bool.false_eq_true, beq_iff_eq, bne_iff_ne, bne_eq_false_iff_eq, beq_eq_false_iff_ne, gt_iff_lt, ge_iff_le, Int.reduceEq, Int.reduceNe, Int.reduceLT, Int.reduceLE, ne_eq, not_true_eq_false, not_false_eq_true] at hb0) <;> (try simp only [beq_true, beq_false, Bool.not_eq_true', Bool.not_eq_false'] at hb) <;> (simp only [go_sem, Nat.reduceAdd, Nat.reduceSub, Nat.reduceMul, Nat.reduceLeDiff, Nat.reduceLT, Nat.reduceEqDiff, Int.reduceToNat, Int.reduceAdd, Int.reduceMul, Int.reduceSub, Int.reduceLT, Int.reduceLE, Int.reduceEq, Int.reduceNeg, Int.reduceBEq, Int.reduceBNe, ↓reduceIte, reduceCtorEq, hdd, hlt, List.length_map, h2, hil, hx', hy', hy0, hty, hdp, wy1, wy2, hw1, hi1, Option.map_some, row_set, Int.toNat_natCast, ha, hy1', hm1, hb, hb0] <;> try simp (disch := omega) only [wrap_of])) | (refine And.intro ?_ ?_) | refine awp_skip ?_ | refine awp_ret ?_ | refine awp_exit ?_ | refine awp_label ?_ | refine awloop_step ?_ | fail)
                  refine ⟨(i + 1, hs.set a d), by simp only; omega, ⟨by simp only; omega, by simp [h2], h3.set a hdb, by simp only; rw [hd]; exact h5⟩, ?_⟩
                  refine Wk.keepE 1 1 (by simp) (by simp) (by intro o ho; rw [List.mem_singleton] at ho; subst ho; exact row_under) ?_
                  simp only [List.map_cons, List.map_nil, AV.low, Fgt, Nat.lt_add_one, if_true, true_or, or_true, and_true, true_and]
                have hp1 : 0 ≤ y1 := by omega
                by_cases hq1 : y1 = d
                · have hqb1 : (y1 != d) = false := by simp [hq1]
                  rw [reachS_ok hy1 (.inr hq1)] at h5
                  simp only at h5
                  repeat' (first | refine awp_seq ?_ | refine awp_block ?_ | refine awp_scope ?_ | ((first | refine awp_region_k fun Kn Kp hn hp => ?_ | refine oge_intro (by assumption) ?_ | (show AWE _ _ _ _ _ _ _ _ _; first | refine awe_intro (hins _) ?_ | refine awe_intro (htk _) ?_) | (show AWSF _ _ _ _ _ _ _ _ _ _ _; first | refine awsf_intro (hins _) (fun hrun => ?_) | refine awsf_intro (htk _) (fun hrun => ?_)) | (show OGE _ _ _ _ _ _ _; first | refine oge_intro (hins _) ?_ | refine oge_intro (htk _) ?_) | (show AWSE _ _ _ _ _ _ _ _ _ _ _; first | refine awse_intro (hins _) (fun hrun => ?_) | refine awse_intro (htk _) (fun hrun => ?_)) | (show PGE _ _ _ _ _; first | refine pge_intro (hins _) (fun tm' => ?_) | refine pge_intro (htk _) (fun tm' => ?_))) <;> (simp only [go_sem, Nat.reduceAdd, Nat.reduceSub, Nat.reduceMul, Nat.reduceLeDiff, Nat.reduceLT, Nat.reduceEqDiff, Int.reduceToNat, Int.reduceAdd, Int.reduceMul, Int.reduceSub, Int.reduceLT, Int.reduceLE, Int.reduceEq, Int.reduceNeg, Int.reduceBEq, Int.reduceBNe, ↓reduceIte, reduceCtorEq, hdd, hlt, List.length_map, h2, hil, hx', hy', hy0, hty, hdp, wy1, wy2, hw1, hi1, Option.map_some, row_set, Int.toNat_natCast, ha, hy1', hp1, hqb1] <;> try simp (disch := omega) only [wrap_of])) | (refine hn _ _ ?_; clear hn hp Kn Kp) | (refine hp _ _ _ ?_; clear hn hp Kn Kp) | (refine awp_cond rfl (fun hb => ?_) (fun hb => ?_) <;> (try simp only [decide_eq_true_eq, decide_eq_false_iff_not, Bool.not_eq_true', Bool.not_eq_false', Bool.true_eq_false, Bool.false_eq_true, beq_iff_eq, bne_iff_ne, bne_eq_false_iff_eq, beq_eq_false_iff_ne, gt_iff_lt, ge_iff_le, Int.reduceEq, Int.reduceNe, Int.reduceLT, Int.reduceLE, ne_eq, not_true_eq_false, not_false_eq_true] at hb)) | ((first | refine awg_split (fun hb => ?_) (fun hb => ?_) | refine awsg_split (fun hb => ?_) (fun hb => ?_)) <;> have hb0 := hb <;> (try simp only [decide_eq_true_eq, decide_eq_false_iff_not, Bool.not_eq_true', Bool.not_eq_false', Bool.true_eq_false, Bool.false_eq_true, beq_iff_eq, bne_iff_ne, bne_eq_false_iff_eq, beq_eq_false_iff_ne, gt_iff_lt, ge_iff_le, Int.reduceEq, Int.reduceNe, Int.reduceLT, Int.reduceLE, ne_eq, not_true_eq_false, not_false_eq_true] at hb0) <;> (try simp only [beq_true, beq_false, Bool.not_eq_true', Bool.not_eq_false'] at hb) <;> (simp only [go_sem, Nat.reduceAdd, Nat.reduceSub, Nat.reduceMul, Nat.reduceLeDiff, Nat.reduceLT, Nat.reduceEqDiff, Int.reduceToNat, Int.reduceAdd, Int.reduceMul, Int.reduceSub, Int.reduceLT, Int.reduceLE, Int.reduceEq, Int.reduceNeg, Int.reduceBEq, Int.reduceBNe, ↓reduceIte, reduceCtorEq, hdd, hlt, List.length_map, h2, hil, hx', hy', hy0, hty, hdp, wy1, wy2, hw1, hi1, Option.map_some, row_set, Int.toNat_natCast, ha, hy1', hp1, hqb1, hb, hb0] <;> try simp (disch := omega) only [wrap_of])) | (refine And.intro ?_ ?_) | refine awp_skip ?_ | refine awp_ret ?_ | refine awp_exit ?_ | refine awp_label ?_ | refine awloop_step ?_ | fail)
                  refine ⟨(i + 1, hs.set a d), by simp only; omega, ⟨by simp only; omega, by simp [h2], h3.set a hdb, by simp only; rw [hd]; exact h5⟩, ?_⟩
                  refine Wk.keepE 1 1 (by simp) (by simp) (by intro o ho; rw [List.mem_singleton] at ho; subst ho; exact row_under) ?_
                  simp only [List.map_cons, List.map_nil, AV.low, Fgt, Nat.lt_add_one, if_true, true_or, or_true, and_true, true_and]
                · have hqb1 : (y1 != d) = true := by simp [hq1]
                  rw [reachS_no hy1 (by omega)] at h5
                  simp only at h5
                  rw [h5]
                  repeat' (first | refine awp_seq ?_ | refine awp_block ?_ | refine awp_scope ?_ | ((first | refine awp_region_k fun Kn Kp hn hp => ?_ | refine oge_intro (by assumption) ?_ | (show AWE _ _ _ _ _ _ _ _ _; first | refine awe_intro (hins _) ?_ | refine awe_intro (htk _) ?_) | (show AWSF _ _ _ _ _ _ _ _ _ _ _; first | refine awsf_intro (hins _) (fun hrun => ?_) | refine awsf_intro (htk _) (fun hrun => ?_)) | (show OGE _ _ _ _ _ _ _; first | refine oge_intro (hins _) ?_ | refine oge_intro (htk _) ?_) | (show AWSE _ _ _ _ _ _ _ _ _ _ _; first | refine awse_intro (hins _) (fun hrun => ?_) | refine awse_intro (htk _) (fun hrun => ?_)) | (show PGE _ _ _ _ _; first | refine pge_intro (hins _) (fun tm' => ?_) | refine pge_intro (htk _) (fun tm' => ?_))) <;> (simp only [go_sem, Nat.reduceAdd, Nat.reduceSub, Nat.reduceMul, Nat.reduceLeDiff, Nat.reduceLT, Nat.reduceEqDiff, Int.reduceToNat, Int.reduceAdd, Int.reduceMul, Int.reduceSub, Int.reduceLT, Int.reduceLE, Int.reduceEq, Int.reduceNeg, Int.reduceBEq, Int.reduceBNe, ↓reduceIte, reduceCtorEq, hdd, hlt, List.length_map, h2, hil, hx', hy', hy0, hty, hdp, wy1, wy2, hw1, hi1, Option.map_some, row_set, Int.toNat_natCast, ha, hy1', hp1, hqb1] <;> try simp (disch := omega) only [wrap_of])) | (refine hn _ _ ?_; clear hn hp Kn Kp) | (refine hp _ _ _ ?_; clear hn hp Kn Kp) | (refine awp_cond rfl (fun hb => ?_) (fun hb => ?_) <;> (try simp only [decide_eq_true_eq, decide_eq_false_iff_not, Bool.not_eq_true', Bool.not_eq_false', Bool.true_eq_false, Bool.false_eq_true, beq_iff_eq, bne_iff_ne, bne_eq_false_iff_eq, beq_eq_false_iff_ne, gt_iff_lt, ge_iff_le, Int.reduceEq, Int.reduceNe, Int.reduceLT, Int.reduceLE, ne_eq, not_true_eq_false, not_false_eq_true] at hb)) | ((first | refine awg_split (fun hb => ?_) (fun hb => ?_) | refine awsg_split (fun hb => ?_) (fun hb => ?_)) <;> have hb0 := hb <;> (try simp only [decide_eq_true_eq, decide_eq_false_iff_not, Bool.not_eq_true', Bool.not_eq_false', Bool.true_eq_false, Bool.false_eq_true, beq_iff_eq, bne_iff_ne, bne_eq_false_iff_eq, beq_eq_false_iff_ne, gt_iff_lt, ge_iff_le, Int.reduceEq, Int.reduceNe, Int.reduceLT, Int.reduceLE, ne_eq, not_true_eq_false, not_false_eq_true] at hb0) <;> (try simp only [beq_true, beq_false, Bool.not_eq_true', Bool.not_eq_false'] at hb) <;> (simp only [go_sem, Nat.reduceAdd, Nat.reduceSub, Nat.reduceMul, Nat.reduceLeDiff, Nat.reduceLT, Nat.reduceEqDiff, Int.reduceToNat, Int.reduceAdd, Int.reduceMul, Int.reduceSub, Int.reduceLT, Int.reduceLE, Int.reduceEq, Int.reduceNeg, Int.reduceBEq, Int.reduceBNe, ↓reduceIte, reduceCtorEq, hdd, hlt, List.length_map, h2, hil, hx', hy', hy0, hty, hdp, wy1, wy2, hw1, hi1, Option.map_some, row_set, Int.toNat_natCast, ha, hy1', hp1, hqb1, hb, hb0] <;> try simp (disch := omega) only [wrap_of])) | (refine And.intro ?_ ?_) | refine awp_skip ?_ | refine awp_ret ?_ | refine awp_exit ?_ | refine awp_label ?_ | refine awloop_step ?_ | fail)
                  (refine resX ?_; try exact True.intro)
              have e12 : (op == 12) = false := by simpa using h12
              have e13 : (op == 13) = false := by simpa using h13
              have ne13 : (op != 13) = true := by simpa using h13
              rw [ggo h12 h13] at h5
              obtain ⟨y1, hy1⟩ := get_some (hs := hs) (i := i + 1) (by simp only [h2]; omega)
              have yb1 := h3.get hy1
              have hy1' : ((hs).map fun v => [AV.i v])[i + 1]? = some [AV.i y1] := by rw [List.getElem?_map, hy1]; rfl
              by_cases hn1 : y1 < 0
              · have hm1 : ¬ 0 ≤ y1 := by omega
                rw [reachS_ok hy1 (.inl (by omega))] at h5
                simp only at h5
                repeat' (first | refine awp_seq ?_ | refine awp_block ?_ | refine awp_scope ?_ | ((first | refine awp_region_k fun Kn Kp hn hp => ?_ | refine oge_intro (by assumption) ?_ | (show AWE _ _ _ _ _ _ _ _ _; first | refine awe_intro (hins _) ?_ | refine awe_intro (htk _) ?_) | (show AWSF _ _ _ _ _ _ _ _ _ _ _; first | refine awsf_intro (hins _) (fun hrun => ?_) | refine awsf_intro (htk _) (fun hrun => ?_)) | (show OGE _ _ _ _ _ _ _; first | refine oge_intro (hins _) ?_ | refine oge_intro (htk _) ?_) | (show AWSE _ _ _ _ _ _ _ _ _ _ _; first | refine awse_intro (hins _) (fun hrun => ?_) | refine awse_intro (htk _) (fun hrun => ?_)) | (show PGE _ _ _ _ _; first | refine pge_intro (hins _) (fun tm' => ?_) | refine pge_intro (htk _) (fun tm' => ?_))) <;> (simp only [go_sem, Nat.reduceAdd, Nat.reduceSub, Nat.reduceMul, Nat.reduceLeDiff, Nat.reduceLT, Nat.reduceEqDiff, Int.reduceToNat, Int.reduceAdd, Int.reduceMul, Int.reduceSub, Int.reduceLT, Int.reduceLE, Int.reduceEq, Int.reduceNeg, Int.reduceBEq, Int.reduceBNe, ↓reduceIte, reduceCtorEq, hdd, hlt, List.length_map, h2, hil, hx', hy', hy0, hty, hdp, wy1, wy2, hw1, hi1, Option.map_some, row_set, Int.toNat_natCast, e12, e13, ne13, hy1', hm1] <;> try simp (disch := omega) only [wrap_of])) | (refine hn _ _ ?_; clear hn hp Kn Kp) | (refine hp _ _ _ ?_; clear hn hp Kn Kp) | (refine awp_cond rfl (fun hb => ?_) (fun hb => ?_) <;> (try simp only [decide_eq_true_eq, decide_eq_false_iff_not, Bool.not_eq_true', Bool.not_eq_false', Bool.true_eq_false, Bool.false_eq_true, beq_iff_eq, bne_iff_ne, bne_eq_false_iff_eq, beq_eq_false_iff_ne, gt_iff_lt, ge_iff_le, Int.reduceEq, Int.reduceNe, Int.reduceLT, Int.reduceLE, ne_eq, not_true_eq_false, not_false_eq_true] at hb)) | ((first | refine awg_split (fun hb => ?_) (fun hb => ?_) | refine awsg_split (fun hb => ?_) (fun hb => ?_)) <;> have hb0 := hb <;> (try simp only [decide_eq_true_eq, decide_eq_false_iff_not, Bool.not_eq_true', Bool.not_eq_false', Bool.true_eq_false, Bool.false_eq_true, beq_iff_eq, bne_iff_ne, bne_eq_false_iff_eq, beq_eq_false_iff_ne, gt_iff_lt, ge_iff_le, Int.reduceEq, Int.reduceNe, Int.reduceLT, Int.reduceLE, ne_eq, not_true_eq_false, not_false_eq_true] at hb0) <;> (try simp only [beq_true, beq_false, Bool.not_eq_true', Bool.not_eq_false'] at hb) <;> (simp only [go_sem, Nat.reduceAdd, Nat.reduceSub, Nat.reduceMul, Nat.reduceLeDiff, Nat.reduceLT, Nat.reduceEqDiff, Int.reduceToNat, Int.reduceAdd, Int.reduceMul, Int.reduceSub, Int.reduceLT, Int.reduceLE, Int.reduceEq, Int.reduceNeg, Int.reduceBEq, Int.reduceBNe, ↓reduceIte, reduceCtorEq, hdd, hlt, List.length_map, h2, hil, hx', hy', hy0, hty, hdp, wy1, wy2, hw1, hi1, Option.map_some, row_set, Int.toNat_natCast, e12, e13, ne13, hy1', hm1, hb, hb0] <;> try simp (disch := omega) only [wrap_of])) | (refine And.intro ?_ ?_) | refine awp_skip ?_ | refine awp_ret ?_ | refine awp_exit ?_ | refine awp_label ?_ | refine awloop_step ?_ | fail)
                refine ⟨(i + 1, hs.set (i + 1) d), by simp only; omega, ⟨by simp only; omega, by simp [h2], h3.set _ hdb, by simp only; rw [hd]; exact h5⟩, ?_⟩
                refine Wk.keepE 1 1 (by simp) (by simp) (by intro o ho; rw [List.mem_singleton] at ho; subst ho; exact row_under) ?_
                simp only [List.map_cons, List.map_nil, AV.low, Fgt, Nat.lt_add_one, if_true, true_or, or_true, and_true, true_and]
              have hp1 : 0 ≤ y1 := by omega
              by_cases hq1 : y1 = d
              · have hqb1 : (y1 != d) = false := by simp [hq1]
                rw [reachS_ok hy1 (.inr hq1)] at h5
                simp only at h5
                repeat' (first | refine awp_seq ?_ | refine awp_block ?_ | refine awp_scope ?_ | ((first | refine awp_region_k fun Kn Kp hn hp => ?_ | refine oge_intro (by assumption) ?_ | (show AWE _ _ _ _ _ _ _ _ _; first | refine awe_intro (hins _) ?_ | refine awe_intro (htk _) ?_) | (show AWSF _ _ _ _ _ _ _ _ _ _ _; first | refine awsf_intro (hins _) (fun hrun => ?_) | refine awsf_intro (htk _) (fun hrun => ?_)) | (show OGE _ _ _ _ _ _ _; first | refine oge_intro (hins _) ?_ | refine oge_intro (htk _) ?_) | (show AWSE _ _ _ _ _ _ _ _ _ _ _; first | refine awse_intro (hins _) (fun hrun => ?_) | refine awse_intro (htk _) (fun hrun => ?_)) | (show PGE _ _ _ _ _; first | refine pge_intro (hins _) (fun tm' => ?_) | refine pge_intro (htk _) (fun tm' => ?_))) <;> (simp only [go_sem, Nat.reduceAdd, Nat.reduceSub, Nat.reduceMul, Nat.reduceLeDiff, Nat.reduceLT, Nat.reduceEqDiff, Int.reduceToNat, Int.reduceAdd, Int.reduceMul, Int.reduceSub, Int.reduceLT, Int.reduceLE, Int.reduceEq, Int.reduceNeg, Int.reduceBEq, Int.reduceBNe, ↓reduceIte, reduceCtorEq, hdd, hlt, List.length_map, h2, hil, hx', hy', hy0, hty, hdp, wy1, wy2, hw1, hi1, Option.map_some, row_set, Int.toNat_natCast, e12, e13, ne13, hy1', hp1, hqb1] <;> try simp (disch := omega) only [wrap_of])) | (refine hn _ _ ?_; clear hn hp Kn Kp) | (refine hp _ _ _ ?_; clear hn hp Kn Kp) | (refine awp_cond rfl (fun hb => ?_) (fun hb => ?_) <;> (try simp only [decide_eq_true_eq, decide_eq_false_iff_not, Bool.not_eq_true', Bool.not_eq_false', Bool.true_eq_false, Bool.false_eq_true, beq_iff_eq, bne_iff_ne, bne_eq_false_iff_eq, beq_eq_false_iff_ne, gt_iff_lt, ge_iff_le, Int.reduceEq, Int.reduceNe, Int.reduceLT, Int.reduceLE, ne_eq, not_true_eq_false, not_false_eq_true] at hb)) | ((first | refine awg_split (fun hb => ?_) (fun hb => ?_) | refine awsg_split (fun hb => ?_) (fun hb => ?_)) <;> have hb0 := hb <;> (try simp only [decide_eq_true_eq, decide_eq_false_iff_not, Bool.not_eq_true', Bool.not_eq_false', Bool.true_eq_false, Bool.false_eq_true, beq_iff_eq, bne_iff_ne, bne_eq_false_iff_eq, beq_eq_false_iff_ne, gt_iff_lt, ge_iff_le, Int.reduceEq, Int.reduceNe, Int.reduceLT, Int.reduceLE, ne_eq, not_true_eq_false, not_false_eq_true] at hb0) <;> (try simp only [beq_true, beq_false, Bool.not_eq_true', Bool.not_eq_false'] at hb) <;> (simp only [go_sem, Nat.reduceAdd, Nat.reduceSub, Nat.reduceMul, Nat.reduceLeDiff, Nat.reduceLT, Nat.reduceEqDiff, Int.reduceToNat, Int.reduceAdd, Int.reduceMul, Int.reduceSub, Int.reduceLT, Int.reduceLE, Int.reduceEq, Int.reduceNeg, Int.reduceBEq, Int.reduceBNe, ↓reduceIte, reduceCtorEq, hdd, hlt, List.length_map, h2, hil, hx', hy', hy0, hty, hdp, wy1, wy2, hw1, hi1, Option.map_some, row_set, Int.toNat_natCast, e12, e13, ne13, hy1', hp1, hqb1, hb, hb0] <;> try simp (disch := omega) only [wrap_of])) | (refine And.intro ?_ ?_) | refine awp_skip ?_ | refine awp_ret ?_ | refine awp_exit ?_ | refine awp_label ?_ | refine awloop_step ?_ | fail)
                refine ⟨(i + 1, hs.set (i + 1) d), by simp only; omega, ⟨by simp only; omega, by simp [h2], h3.set _ hdb, by simp only; rw [hd]; exact h5⟩, ?_⟩
                refine Wk.keepE 1 1 (by simp) (by simp) (by intro o ho; rw [List.mem_singleton] at ho; subst ho; exact row_under) ?_
                simp only [List.map_cons, List.map_nil, AV.low, Fgt, Nat.lt_add_one, if_true, true_or, or_true, and_true, true_and]
              · have hqb1 : (y1 != d) = true := by simp [hq1]
                rw [reachS_no hy1 (by omega)] at h5
                simp only at h5
                rw [h5]
                repeat' (first | refine awp_seq ?_ | refine awp_block ?_ | refine awp_scope ?_ | ((first | refine awp_region_k fun Kn Kp hn hp => ?_ | refine oge_intro (by assumption) ?_ | (show AWE _ _ _ _ _ _ _ _ _; first | refine awe_intro (hins _) ?_ | refine awe_intro (htk _) ?_) | (show AWSF _ _ _ _ _ _ _ _ _ _ _; first | refine awsf_intro (hins _) (fun hrun => ?_) | refine awsf_intro (htk _) (fun hrun => ?_)) | (show OGE _ _ _ _ _ _ _; first | refine oge_intro (hins _) ?_ | refine oge_intro (htk _) ?_) | (show AWSE _ _ _ _ _ _ _ _ _ _ _; first | refine awse_intro (hins _) (fun hrun => ?_) | refine awse_intro (htk _) (fun hrun => ?_)) | (show PGE _ _ _ _ _; first | refine pge_intro (hins _) (fun tm' => ?_) | refine pge_intro (htk _) (fun tm' => ?_))) <;> (simp only [go_sem, Nat.reduceAdd, Nat.reduceSub, Nat.reduceMul, Nat.reduceLeDiff, Nat.reduceLT, Nat.reduceEqDiff, Int.reduceToNat, Int.reduceAdd, Int.reduceMul, Int.reduceSub, Int.reduceLT, Int.reduceLE, Int.reduceEq, Int.reduceNeg, Int.reduceBEq, Int.reduceBNe, ↓reduceIte, reduceCtorEq, hdd, hlt, List.length_map, h2, hil, hx', hy', hy0, hty, hdp, wy1, wy2, hw1, hi1, Option.map_some, row_set, Int.toNat_natCast, e12, e13, ne13, hy1', hp1, hqb1] <;> try simp (disch := omega) only [wrap_of])) | (refine hn _ _ ?_; clear hn hp Kn Kp) | (refine hp _ _ _ ?_; clear hn hp Kn Kp) | (refine awp_cond rfl (fun hb => ?_) (fun hb => ?_) <;> (try simp only [decide_eq_true_eq, decide_eq_false_iff_not, Bool.not_eq_true', Bool.not_eq_false', Bool.true_eq_false, Bool.false_eq_true, beq_iff_eq, bne_iff_ne, bne_eq_false_iff_eq, beq_eq_false_iff_ne, gt_iff_lt, ge_iff_le, Int.reduceEq, Int.reduceNe, Int.reduceLT, Int.reduceLE, ne_eq, not_true_eq_false, not_false_eq_true] at hb)) | ((first | refine awg_split (fun hb => ?_) (fun hb => ?_) | refine awsg_split (fun hb => ?_) (fun hb => ?_)) <;> have hb0 := hb <;> (try simp only [decide_eq_true_eq, decide_eq_false_iff_not, Bool.not_eq_true', Bool.not_eq_false', Bool.true_eq_false, Bool.false_eq_true, beq_iff_eq, bne_iff_ne, bne_eq_false_iff_eq, beq_eq_false_iff_ne, gt_iff_lt, ge_iff_le, Int.reduceEq, Int.reduceNe, Int.reduceLT, Int.reduceLE, ne_eq, not_true_eq_false, not_false_eq_true] at hb0) <;> (try simp only [beq_true, beq_false, Bool.not_eq_true', Bool.not_eq_false'] at hb) <;> (simp only [go_sem, Nat.reduceAdd, Nat.reduceSub, Nat.reduceMul, Nat.reduceLeDiff, Nat.reduceLT, Nat.reduceEqDiff, Int.reduceToNat, Int.reduceAdd, Int.reduceMul, Int.reduceSub, Int.reduceLT, Int.reduceLE, Int.reduceEq, Int.reduceNeg, Int.reduceBEq, Int.reduceBNe, ↓reduceIte, reduceCtorEq, hdd, hlt, List.length_map, h2, hil, hx', hy', hy0, hty, hdp, wy1, wy2, hw1, hi1, Option.map_some, row_set, Int.toNat_natCast, e12, e13, ne13, hy1', hp1, hqb1, hb, hb0] <;> try simp (disch := omega) only [wrap_of])) | (refine And.intro ?_ ?_) | refine awp_skip ?_ | refine awp_ret ?_ | refine awp_exit ?_ | refine awp_label ?_ | refine awloop_step ?_ | fail)
                (refine resX ?_; try exact True.intro)
      · have hkl : (k : Int) ≤ l.length := by omega
        have hki : (k : Int) < (l.length + 1 : Nat) := by omega
        have hw : IntKind.i64.wrap ((k : Int) + 1) = ((k + 1 : Nat) : Int) := by rw [wrap_of (by omega) (by omega)]; omega
        have hlen : ((0 :: List.replicate l.length (-1 : Int)).take k ++ (List.replicate (l.length + 1) (0 : Int)).drop k).length = l.length + 1 := by simp; omega
        have hfill := fill_step (A := 0 :: List.replicate l.length (-1 : Int)) (B := List.replicate (l.length + 1) (0 : Int)) (by simp) (k := k) (x := -1) (by obtain ⟨j, rfl⟩ : ∃ j, k = j + 1 := ⟨k - 1, by omega⟩; rw [List.getElem?_cons_succ, List.getElem?_replicate, if_pos (by omega)])
        generalize hg : (0 :: List.replicate l.length (-1 : Int)).take k ++ (List.replicate (l.length + 1) (0 : Int)).drop k = row at *
        obtain ⟨z, hz⟩ := get_some (hs := row) (i := k) (by omega)
        have hz' : (row.map fun v => [AV.i v])[k]? = some [AV.i z] := by rw [List.getElem?_map, hz]; rfl
        (have ww1 := hkl; have ww2 := hki; have ww3 := hw; have ww4 := hlen; have ww5 := hz'; have ww6 := @row_set; refine wk ?_; clear ww1 ww2 ww3 ww4 ww5 ww6; (repeat' first | exact True.intro | refine Lf.mk ?_ ?_); all_goals intro hP)
        refine ⟨k + 1, by omega, ⟨by omega, by omega⟩, ?_⟩
        refine Wk.fgtE ?_ (by (refine fgX ?_; try exact True.intro))
        rw [← hfill]
end Go.Proofs.YtimmncjdknlegaaDoor.Y
