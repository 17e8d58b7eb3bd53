/- Part 0 of the proofs of seat YtpfjlifneibhfaaGreat: what the texts behind it lean on (abstract memory, walks of functions, plain laws). -/
import Derived.Calls
import Derived.Laws.Sem
import Derived.Laws.Rows
import Derived.Laws.World
import Derived.Laws.AppendOwn
import Derived.Laws.Tables
import Derived.Laws.Cells
import Derived.Deep.Draws
import Derived.Laws.Entries
import Derived.Tactics
import Derived.Maps.AppendAt
import Derived.Laws.StructEq
import Derived.ChangeKeysEq
import Derived.Lib.ConvBytes
import Derived.Laws.Pointers
import Derived.Laws.Unary
import Derived.Laws.Small
import Derived.Laws.Cover1
import Derived.Orders
set_option linter.unusedSectionVars false
set_option linter.unusedSimpArgs false
set_option linter.unusedVariables false
set_option maxHeartbeats 100000000
set_option maxRecDepth 100000
namespace Go.Proofs.YtpfjlifneibhfaaGreat.AL
/-- A pure value: one cell's content without an address into memory that may be written; a slice that is only read, by its rows. -/
inductive PV where
  | sc (x : Value)
  | rs (sz : Nat) (rows : List (List PV))
/-- Package variables that are only read, and what they hold. -/
class GTab where
  tab : Nat → Option (List PV)
inductive AV where
  | any
  | pv (x : PV)
  | p (id off : Nat)
  | os (id off len ext : Nat)
  | op (id i off ext : Nat)
  | rp (cells : List PV)
  | agg (cs : List AV)
  | tup (vs : List AV)
  | fn (f : Fn) (first caps : List AV)
  | ifc (t : TypeId) (x : AV)
  | mp (id : Nat)
inductive AObj where
  | dead
  | cells (t : TypeId) (cs : List AV)
  | arr (t : TypeId) (sz : Nat) (rows : List (List AV))
  | smap (es : List (ByteArray × Value))
  | imap (es : List (Int × Value))
abbrev BMap := Nat → Option (Nat × Nat)
inductive PRel (w : World) (S : Nat → Prop) : PV → Value → Prop
  | sc {x : Value} (h : x.oneCell' = true) : PRel w S (.sc x) x
  | rs {sz : Nat} {rows : List (List PV)} {A : Option Addr} {c : Nat} (V : Nat → Nat → Value) (hc : rows.length ≤ c) (hm : c ≤ maxLen) (hp : 0 < sz) (hA : A = none → c = 0)
      (hsz : ∀ r ∈ rows, r.length = sz)
      (hcell : ∀ i r j p, rows[i]? = some r → r[j]? = some p → ∃ ad, A = some ad ∧ S ad.block ∧ w.cell? (ad.add (i * sz + j)) = some (V i j))
      (hrel : ∀ i r j p, rows[i]? = some r → r[j]? = some p → PRel w S p (V i j)) : PRel w S (.rs sz rows) (.slice A rows.length c)
theorem PRel.one {w : World} {S : Nat → Prop} {p : PV} {v : Value} (h : PRel w S p v) : v.oneCell' = true := by
  cases h with
  | sc h => exact h
  | rs => rfl
theorem cell_stable {w w' : World} {S : Nat → Prop} (hw : ∀ b, S b → w'.heap[b]? = w.heap[b]?) {a : Addr} (ha : S a.block) : w'.cell? a = w.cell? a :=
  World.cell?_of_block (hw _ ha)
theorem add_block (a : Addr) (n : Nat) : (a.add n).block = a.block := by unfold Addr.add; split <;> rfl
theorem PRel.mono {w w' : World} {S S' : Nat → Prop} (hS : ∀ b, S b → S' b) (hw : ∀ b, S b → w'.heap[b]? = w.heap[b]?) {p : PV} {v : Value}
    (h : PRel w S p v) : PRel w' S' p v := by
  induction h with
  | sc h => exact .sc h
  | rs V hc hm hp hA hsz hcell hrel ih =>
    refine .rs V hc hm hp hA hsz (fun i r j p hi hj => ?_) ih
    obtain ⟨ad, h1, h2, h3⟩ := hcell i r j p hi hj
    exact ⟨ad, h1, hS _ h2, by rw [cell_stable hw (by rw [add_block]; exact h2)]; exact h3⟩
/-- What is known of a slice over a row of one's own, while it is not outdated. -/
def OsRel (B : BMap) (id sz off len ext : Nat) (v : Value) : Prop :=
  off + len ≤ ext ∧ match B id with
    | none => off = 0 ∧ len = 0 ∧ v = .slice none 0 0
    | some (b, cap) => ext ≤ cap ∧ ∃ o, v = .slice (some ⟨b, o, none⟩) len (cap - off) ∧ (off < cap → o = off * sz) ∧ (off = 0 → o = 0)
inductive ARel (w : World) (B : BMap) (S : Nat → Prop) (H : List AObj) : AV → Value → Prop
  | any {v} : ARel w B S H .any v
  | pv {x v} (h : PRel w S x v) : ARel w B S H (.pv x) v
  | p {id off b c} (hb : B id = some (b, c)) (hid : id < H.length) (hk : ∀ t sz rows, H[id]? ≠ some (.arr t sz rows)) : ARel w B S H (.p id off) (.pointer (some ⟨b, off, none⟩))
  | os {id off len ext v} (hid : id < H.length) (h1 : v.oneCell' = true)
      (hl : ∀ t sz rows, H[id]? = some (.arr t sz rows) → ext ≤ rows.length ∧ (rows.length = ext → OsRel B id sz off len ext v)) : ARel w B S H (.os id off len ext) v
  | op {id i off ext v} (hid : id < H.length) (h1 : v.oneCell' = true)
      (hl : ∀ t sz rows, H[id]? = some (.arr t sz rows) → ext ≤ rows.length ∧ (rows.length = ext → i < ext ∧ off < sz ∧ ∃ b c, B id = some (b, c) ∧ v = .pointer (some ⟨b, i * sz + off, none⟩))) : ARel w B S H (.op id i off ext) v
  | rp {cells a} (h : ∀ (j : Nat) (p : PV), cells[j]? = some p → S a.block ∧ ∃ u, w.cell? (a.add j) = some u ∧ PRel w S p u) : ARel w B S H (.rp cells) (.pointer (some a))
  | agg {cs : List AV} {vs : List Value} (hl : cs.length = vs.length) (h1 : ∀ v ∈ vs, v.oneCell' = true)
      (h : ∀ (j : Nat) (c : AV) (v : Value), cs[j]? = some c → vs[j]? = some v → ARel w B S H c v) : ARel w B S H (.agg cs) (.agg vs.toArray)
  | tup {cs : List AV} {vs : List Value} (hl : cs.length = vs.length)
      (h : ∀ (j : Nat) (c : AV) (v : Value), cs[j]? = some c → vs[j]? = some v → ARel w B S H c v) : ARel w B S H (.tup cs) (.tuple vs.toArray)
  | fn {f : Fn} {fi ca : List AV} {fs cs : List Value} (hf : fi.length = fs.length) (hc : ca.length = cs.length)
      (h : ∀ (j : Nat) (c : AV) (v : Value), fi[j]? = some c → fs[j]? = some v → ARel w B S H c v)
      (k : ∀ (j : Nat) (c : AV) (v : Value), ca[j]? = some c → cs[j]? = some v → ARel w B S H c v) : ARel w B S H (.fn f fi ca) (.func f fs.toArray cs.toArray)
  | ifc {t x v} (h : ARel w B S H x v) : ARel w B S H (.ifc t x) (.iface t v)
  | mp {id b c} (hb : B id = some (b, c)) (hid : id < H.length) (hk : ∀ t sz rows, H[id]? ≠ some (.arr t sz rows)) : ARel w B S H (.mp id) (.map (some b))
/-- Lists, element by element. -/
def ARelL (w : World) (B : BMap) (S : Nat → Prop) (H : List AObj) (cs : List AV) (vs : List Value) : Prop :=
  cs.length = vs.length ∧ ∀ (j : Nat) (c : AV) (v : Value), cs[j]? = some c → vs[j]? = some v → ARel w B S H c v
/-- One object. -/
def ORel (w : World) (B : BMap) (S : Nat → Prop) (H : List AObj) (id : Nat) : AObj → Prop
  | .dead => True
  | .cells t cs => ∃ (b c : Nat) (vs : List Value), B id = some (b, c) ∧ w.heap[b]? = some (.cells vs.toArray t (0, 0)) ∧ ARelL w B S H cs vs ∧ ∀ v ∈ vs, v.oneCell' = true
  | .arr t sz rows => (∀ r ∈ rows, r.length = sz) ∧ 0 < sz ∧
      ((B id = none ∧ rows = []) ∨
        ∃ (b cap : Nat) (cur : List Value), B id = some (b, cap) ∧ w.heap[b]? = some (.cells cur.toArray t (0, 0)) ∧ rows.length ≤ cap ∧ cap ≤ maxLen ∧ cur.length = cap * sz ∧
          (∀ v ∈ cur.take (rows.length * sz), v.oneCell' = true) ∧ ARelL w B S H rows.flatten (cur.take (rows.length * sz)))
  | .smap es => ∃ (b c : Nat) (arr : Array MapEntry) (clock : Nat), B id = some (b, c) ∧ w.heap[b]? = some (.map arr clock) ∧ (arr.toList.map fun e => (e.key, e.val)) = (es.map fun x => (Value.string x.1, x.2)) ∧ ∀ x ∈ es, x.2.oneCell' = true
  | .imap es => ∃ (b c : Nat) (arr : Array MapEntry) (clock : Nat), B id = some (b, c) ∧ w.heap[b]? = some (.map arr clock) ∧ (arr.toList.map fun e => (e.key, e.val)) = (es.map fun x => (Value.int .i64 x.1, x.2)) ∧ ∀ x ∈ es, x.2.oneCell' = true
variable [G : GTab]
/-- What the package variables hold. -/
def GRel (w : World) (S : Nat → Prop) : Prop := ∀ (g : Nat) (cells : List PV), GTab.tab g = some cells → ∀ (j : Nat) (p : PV), cells[j]? = some p → S g ∧ ∃ u, w.cell? ((⟨g, 0, none⟩ : Addr).add j) = some u ∧ PRel w S p u
theorem GRel.mono {w w' : World} {S S' : Nat → Prop} (hS : ∀ b, S b → S' b) (hw : ∀ b, S b → w'.heap[b]? = w.heap[b]?) (h : GRel w S) : GRel w' S' := by
  intro g cells hg j p hj
  obtain ⟨h1, u, h2, h3⟩ := h g cells hg j p hj
  exact ⟨hS _ h1, u, by rw [cell_stable hw (by rw [add_block]; exact h1)]; exact h2, h3.mono hS hw⟩
/-- All of memory that is told. -/
structure HRel (w : World) (B : BMap) (S : Nat → Prop) (H : List AObj) : Prop where
  obj : ∀ id o, H[id]? = some o → ORel w B S H id o
  inj : ∀ i j b c d, i < H.length → j < H.length → H[i]? ≠ some .dead → H[j]? ≠ some .dead → B i = some (b, c) → B j = some (b, d) → i = j
  sep : ∀ i b c, i < H.length → H[i]? ≠ some .dead → B i = some (b, c) → ¬ S b
  bound : ∀ b, S b → b < w.heap.size
  glob : GRel w S
/-- From one state of memory to a later one. -/
structure Step (w : World) (B : BMap) (S : Nat → Prop) (H : List AObj) (w' : World) (B' : BMap) (S' : Nat → Prop) (H' : List AObj) : Prop where
  os : w'.os = w.os
  tape : w'.tape = w.tape
  output : w'.output = w.output
  size : w.heap.size ≤ w'.heap.size
  sub : ∀ b, S b → S' b
  keep : ∀ b, S b → w'.heap[b]? = w.heap[b]?
  len : H.length ≤ H'.length
  arr : ∀ id t sz rows, H[id]? = some (.arr t sz rows) → (∀ t' sz' rows', H'[id]? ≠ some (.arr t' sz' rows')) ∨ ∃ rows', H'[id]? = some (.arr t sz rows') ∧ rows.length ≤ rows'.length ∧ (rows.length = rows'.length → B' id = B id)
  cel : ∀ id, id < H.length → (∀ t sz rows, H[id]? ≠ some (.arr t sz rows)) → B' id = B id ∧ ∀ t sz rows, H'[id]? ≠ some (.arr t sz rows)
theorem Step.refl (w : World) (B : BMap) (S : Nat → Prop) (H : List AObj) : Step w B S H w B S H :=
  ⟨rfl, rfl, rfl, Nat.le_refl _, fun _ h => h, fun _ _ => rfl, Nat.le_refl _, fun id t sz rows h => .inr ⟨rows, h, Nat.le_refl _, fun _ => rfl⟩, fun id _ h => ⟨rfl, h⟩⟩
theorem Step.trans {w w' w'' : World} {B B' B'' : BMap} {S S' S'' : Nat → Prop} {H H' H'' : List AObj}
    (h : Step w B S H w' B' S' H') (k : Step w' B' S' H' w'' B'' S'' H'') : Step w B S H w'' B'' S'' H'' where
  os := k.os.trans h.os
  tape := k.tape.trans h.tape
  output := k.output.trans h.output
  size := Nat.le_trans h.size k.size
  sub := fun b hb => k.sub b (h.sub b hb)
  keep := fun b hb => (k.keep b (h.sub b hb)).trans (h.keep b hb)
  len := Nat.le_trans h.len k.len
  arr := by
    intro id t sz rows hid
    have hlt : id < H.length := (List.getElem?_eq_some_iff.1 hid).1
    rcases h.arr id t sz rows hid with hd | ⟨rows', h1, h2, h3⟩
    · exact .inl (k.cel id (Nat.lt_of_lt_of_le hlt h.len) hd).2
    · rcases k.arr id t sz rows' h1 with hd | ⟨rows'', k1, k2, k3⟩
      · exact .inl hd
      · refine .inr ⟨rows'', k1, Nat.le_trans h2 k2, fun e => ?_⟩
        exact (k3 (by omega)).trans (h3 (by omega))
  cel := by
    intro id hlt hn
    have h1 := h.cel id hlt hn
    have h2 := k.cel id (Nat.lt_of_lt_of_le hlt h.len) h1.2
    exact ⟨h2.1.trans h1.1, h2.2⟩
theorem ARel.one {w : World} {B : BMap} {S : Nat → Prop} {H : List AObj} {x : PV} {v : Value} (h : ARel w B S H (.pv x) v) : v.oneCell' = true := by
  cases h with | pv h => exact h.one
theorem ARel.mono {w w' : World} {B B' : BMap} {S S' : Nat → Prop} {H H' : List AObj} (st : Step w B S H w' B' S' H') {a : AV} {v : Value}
    (h : ARel w B S H a v) : ARel w' B' S' H' a v := by
  have arrBack : ∀ id t sz rows', id < H.length → H'[id]? = some (.arr t sz rows') →
      ∃ rows, H[id]? = some (.arr t sz rows) ∧ rows.length ≤ rows'.length ∧ (rows.length = rows'.length → B' id = B id) := by
    intro id t sz rows' hid hr
    cases hc : H[id]? with
    | none => simp only [List.getElem?_eq_none_iff] at hc; omega
    | some o =>
      cases o with
      | arr t0 sz0 rows =>
        rcases st.arr id t0 sz0 rows hc with hn | ⟨rows'', h1, h2, h3⟩
        · exact absurd hr (hn _ _ _)
        · rw [hr] at h1
          simp only [Option.some.injEq, AObj.arr.injEq] at h1
          obtain ⟨rfl, rfl, rfl⟩ := h1
          exact ⟨rows, rfl, h2, h3⟩
      | dead => exact absurd hr ((st.cel id hid (by rw [hc]; simp)).2 _ _ _)
      | cells t0 cs => exact absurd hr ((st.cel id hid (by rw [hc]; simp)).2 _ _ _)
      | smap es => exact absurd hr ((st.cel id hid (by rw [hc]; simp)).2 _ _ _)
      | imap es => exact absurd hr ((st.cel id hid (by rw [hc]; simp)).2 _ _ _)
  induction h with
  | any => exact .any
  | pv h => exact .pv (h.mono st.sub st.keep)
  | p hb hid hk =>
    have := st.cel _ hid hk
    exact .p (this.1.trans hb) (Nat.lt_of_lt_of_le hid st.len) this.2
  | os hid h1 hl =>
    refine .os (Nat.lt_of_lt_of_le hid st.len) h1 (fun t sz rows' hr => ?_)
    obtain ⟨rows, hr0, hle, hB⟩ := arrBack _ t sz rows' hid hr
    have h2 := hl t sz rows hr0
    refine ⟨by omega, fun e => ?_⟩
    have h3 := h2.2 (by omega)
    unfold OsRel at h3 ⊢
    rw [hB (by omega)]
    exact h3
  | op hid h1 hl =>
    refine .op (Nat.lt_of_lt_of_le hid st.len) h1 (fun t sz rows' hr => ?_)
    obtain ⟨rows, hr0, hle, hB⟩ := arrBack _ t sz rows' hid hr
    have h2 := hl t sz rows hr0
    refine ⟨by omega, fun e => ?_⟩
    rw [hB (by omega)]
    exact h2.2 (by omega)
  | rp h =>
    refine .rp (fun j p hj => ?_)
    obtain ⟨h1, u, h2, h3⟩ := h j p hj
    exact ⟨st.sub _ h1, u, by rw [cell_stable st.keep (by rw [add_block]; exact h1)]; exact h2, h3.mono st.sub st.keep⟩
  | agg hl h1 h ih => exact .agg hl h1 ih
  | tup hl h ih => exact .tup hl ih
  | fn hf hc h k ih ik => exact .fn hf hc ih ik
  | ifc h ih => exact .ifc ih
  | mp hb hid hk =>
    have := st.cel _ hid hk
    exact .mp (this.1.trans hb) (Nat.lt_of_lt_of_le hid st.len) this.2
theorem ARelL.mono {w w' : World} {B B' : BMap} {S S' : Nat → Prop} {H H' : List AObj} (st : Step w B S H w' B' S' H') {cs : List AV} {vs : List Value}
    (h : ARelL w B S H cs vs) : ARelL w' B' S' H' cs vs := ⟨h.1, fun j c v hc hv => (h.2 j c v hc hv).mono st⟩
theorem ORel.keep {w w' : World} {B B' : BMap} {S S' : Nat → Prop} {H H' : List AObj} (st : Step w B S H w' B' S' H') {id : Nat} {o : AObj}
    (hB : B' id = B id) (hh : ∀ b c, B id = some (b, c) → w'.heap[b]? = w.heap[b]?) (h : ORel w B S H id o) : ORel w' B' S' H' id o := by
  cases o with
  | dead => trivial
  | cells t cs =>
    obtain ⟨b, c, vs, h1, h2, h3, h4⟩ := h
    exact ⟨b, c, vs, hB.trans h1, (hh b c h1).trans h2, h3.mono st, h4⟩
  | arr t sz rows =>
    obtain ⟨h0, hp, h⟩ := h
    refine ⟨h0, hp, ?_⟩
    rcases h with ⟨h1, h2⟩ | ⟨b, cap, cur, h1, h2, h3, h4, h5, h6, h7⟩
    · exact .inl ⟨hB.trans h1, h2⟩
    · exact .inr ⟨b, cap, cur, hB.trans h1, (hh b cap h1).trans h2, h3, h4, h5, h6, h7.mono st⟩
  | smap es =>
    obtain ⟨b, c, arr, clock, h1, h2, h3, h4⟩ := h
    exact ⟨b, c, arr, clock, hB.trans h1, (hh b c h1).trans h2, h3, h4⟩
  | imap es =>
    obtain ⟨b, c, arr, clock, h1, h2, h3, h4⟩ := h
    exact ⟨b, c, arr, clock, hB.trans h1, (hh b c h1).trans h2, h3, h4⟩
theorem HRel.lt {w : World} {B : BMap} {S : Nat → Prop} {H : List AObj} (hr : HRel w B S H) {id b c : Nat} (hid : id < H.length) (hd : H[id]? ≠ some .dead)
    (hB : B id = some (b, c)) : b < w.heap.size := by
  have ho := hr.obj id _ (List.getElem?_eq_getElem hid)
  rw [List.getElem?_eq_getElem hid] at hd
  cases hx : H[id] with
  | dead => rw [hx] at hd; exact absurd rfl hd
  | cells t cs =>
    rw [hx] at ho
    obtain ⟨b', c', vs, h1, h2, _⟩ := ho
    rw [h1] at hB
    simp only [Option.some.injEq, Prod.mk.injEq] at hB
    obtain ⟨rfl, rfl⟩ := hB
    exact (Array.getElem?_eq_some_iff.1 h2).1
  | arr t sz rows =>
    rw [hx] at ho
    obtain ⟨_, _, h⟩ := ho
    rcases h with ⟨h1, _⟩ | ⟨b', cap, cur, h1, h2, _⟩
    · rw [h1] at hB; cases hB
    · rw [h1] at hB
      simp only [Option.some.injEq, Prod.mk.injEq] at hB
      obtain ⟨rfl, rfl⟩ := hB
      exact (Array.getElem?_eq_some_iff.1 h2).1
  | smap es =>
    rw [hx] at ho
    obtain ⟨b', c', arr, clock, h1, h2, _⟩ := ho
    rw [h1] at hB
    simp only [Option.some.injEq, Prod.mk.injEq] at hB
    obtain ⟨rfl, rfl⟩ := hB
    exact (Array.getElem?_eq_some_iff.1 h2).1
  | imap es =>
    rw [hx] at ho
    obtain ⟨b', c', arr, clock, h1, h2, _⟩ := ho
    rw [h1] at hB
    simp only [Option.some.injEq, Prod.mk.injEq] at hB
    obtain ⟨rfl, rfl⟩ := hB
    exact (Array.getElem?_eq_some_iff.1 h2).1
/-- One object is new, or has turned; its block is b0. -/
structure Upd (w : World) (B : BMap) (H : List AObj) (w' : World) (B' : BMap) (H' : List AObj) (id0 : Nat) (o' : AObj) (b0 : Nat) : Prop where
  os : w'.os = w.os
  tape : w'.tape = w.tape
  output : w'.output = w.output
  size : w.heap.size ≤ w'.heap.size
  heap : ∀ b, b < w.heap.size → b ≠ b0 → (∀ c, B id0 = some (b, c) → id0 < H.length → H[id0]? = some .dead) → w'.heap[b]? = w.heap[b]?
  blk : (∃ c, B id0 = some (b0, c) ∧ id0 < H.length ∧ H[id0]? ≠ some .dead) ∨ w.heap.size ≤ b0
  bOld : ∀ id, id ≠ id0 → B' id = B id
  bNew : ∀ b c, B' id0 = some (b, c) → b = b0
  hOld : ∀ id, id ≠ id0 → H'[id]? = H[id]?
  hNew : H'[id0]? = some o'
  len : H.length ≤ H'.length
  arr : ∀ t sz rows, H[id0]? = some (.arr t sz rows) → ∃ rows', o' = .arr t sz rows' ∧ rows.length ≤ rows'.length ∧ (rows.length = rows'.length → B' id0 = B id0)
  cel : id0 < H.length → (∀ t sz rows, H[id0]? ≠ some (.arr t sz rows)) → B' id0 = B id0 ∧ ∀ t sz rows, o' ≠ .arr t sz rows
section
variable {w w' : World} {B B' : BMap} {S : Nat → Prop} {H H' : List AObj} {id0 b0 : Nat} {o' : AObj}
theorem Upd.notS (u : Upd w B H w' B' H' id0 o' b0) (hr : HRel w B S H) : ¬ S b0 := by
  rcases u.blk with ⟨c, h1, h2, h3⟩ | h
  · exact hr.sep id0 b0 c h2 h3 h1
  · intro hs; have := hr.bound b0 hs; omega
theorem Upd.step (u : Upd w B H w' B' H' id0 o' b0) (hr : HRel w B S H) : Step w B S H w' B' S H' where
  os := u.os
  tape := u.tape
  output := u.output
  size := u.size
  sub := fun _ h => h
  keep := fun b hb => u.heap b (hr.bound b hb) (fun e => u.notS hr (e ▸ hb)) (fun c h1 h2 => Classical.byContradiction fun h3 => hr.sep id0 b c h2 h3 h1 hb)
  len := u.len
  arr := by
    intro id t sz rows h
    by_cases e : id = id0
    · subst e
      obtain ⟨rows', h1, h2, h3⟩ := u.arr t sz rows h
      exact .inr ⟨rows', by rw [u.hNew, h1], h2, h3⟩
    · exact .inr ⟨rows, by rw [u.hOld id e]; exact h, Nat.le_refl _, fun _ => u.bOld id e⟩
  cel := by
    intro id hid hn
    by_cases e : id = id0
    · subst e
      have := u.cel hid hn
      refine ⟨this.1, fun t sz rows => ?_⟩
      rw [u.hNew]
      intro h
      simp only [Option.some.injEq] at h
      exact this.2 _ _ _ h
    · exact ⟨u.bOld id e, fun t sz rows => by rw [u.hOld id e]; exact hn _ _ _⟩
theorem Upd.hrel (u : Upd w B H w' B' H' id0 o' b0) (hr : HRel w B S H) (ho : ORel w' B' S H' id0 o') : HRel w' B' S H' := by
  have st := u.step hr
  have hlen : ∀ id, id < H'.length → id ≠ id0 → id < H.length := by
    intro id hid e
    have := u.hOld id e
    rw [List.getElem?_eq_getElem hid] at this
    exact (List.getElem?_eq_some_iff.1 this.symm).1
  -- another object's block is not b0
  have other : ∀ id b c, id < H.length → id ≠ id0 → H[id]? ≠ some .dead → B id = some (b, c) → b ≠ b0 := by
    intro id b c hid e hd hB hb
    subst hb
    rcases u.blk with ⟨c', h1, h2, h3⟩ | h
    · exact e (hr.inj id id0 _ _ _ hid h2 hd h3 hB h1)
    · have := hr.lt hid hd hB; omega
  refine ⟨?_, ?_, ?_, fun b hb => Nat.lt_of_lt_of_le (hr.bound b hb) u.size, hr.glob.mono (fun _ h => h) (u.step hr).keep⟩
  · intro id o h
    by_cases e : id = id0
    · subst e
      rw [u.hNew] at h
      simp only [Option.some.injEq] at h
      subst h
      exact ho
    · rw [u.hOld id e] at h
      have hid := (List.getElem?_eq_some_iff.1 h).1
      by_cases hd : o = .dead
      · subst hd; trivial
      · refine (hr.obj id o h).keep st (u.bOld id e) (fun b c hB => ?_)
        have hnd : H[id]? ≠ some .dead := by rw [h]; simpa using hd
        exact u.heap b (hr.lt hid hnd hB) (other id b c hid e hnd hB) (fun c' h1 h2 => Classical.byContradiction fun h3 => e (hr.inj id id0 _ _ _ hid h2 hnd h3 hB h1))
  · intro i j b c d hi hj hdi hdj hBi hBj
    by_cases ei : i = id0
    · by_cases ej : j = id0
      · rw [ei, ej]
      · exfalso
        subst ei
        have h0 := u.bNew _ _ hBi
        rw [u.hOld j ej] at hdj
        rw [u.bOld j ej] at hBj
        exact other j b d (hlen j hj ej) ej hdj hBj h0
    · by_cases ej : j = id0
      · exfalso
        subst ej
        have h0 := u.bNew _ _ hBj
        rw [u.hOld i ei] at hdi
        rw [u.bOld i ei] at hBi
        exact other i b c (hlen i hi ei) ei hdi hBi h0
      · rw [u.hOld i ei] at hdi
        rw [u.hOld j ej] at hdj
        rw [u.bOld i ei] at hBi
        rw [u.bOld j ej] at hBj
        exact hr.inj i j b c d (hlen i hi ei) (hlen j hj ej) hdi hdj hBi hBj
  · intro i b c hi hd hB
    by_cases ei : i = id0
    · subst ei
      rw [u.bNew _ _ hB]
      exact u.notS hr
    · rw [u.hOld i ei] at hd
      rw [u.bOld i ei] at hB
      exact hr.sep i b c (hlen i hi ei) hd hB
end
end Go.Proofs.YtpfjlifneibhfaaGreat.AL
namespace Go.Proofs.YtpfjlifneibhfaaGreat.AL
variable [G : GTab]
/-! ### types -/
inductive ADesc where
  | other
  | slice (e : TypeId)
  | struct (fields : List (Nat × TypeId))
  | array (n : Nat) (e : TypeId)
  | str
  | int
  | bool
  | iface
  | map (k e : TypeId)
def ADesc.of : TypeDesc → ADesc
  | .slice e => .slice e
  | .struct fs => .struct (fs.toList.map fun f => (f.offset, f.type))
  | .array n e => .array n e
  | .string => .str
  | .int _ => .int
  | .bool => .bool
  | .interface _ => .iface
  | .map k e => .map k e
  | _ => .other
structure ATy where
  size : Nat
  bytes : Nat
  zero : List Value
  desc : ADesc
def ADesc.isAgg : ADesc → Bool
  | .struct _ | .array _ _ => true
  | _ => false
def ATy.of (P : Program) (t : TypeId) : Option ATy :=
  match P.info? t, P.underlying t with
  | some i, some d => match i.zero with
    | some z => some ⟨i.size, i.bytes, z.cells.toList, .of d⟩
    | none => none
  | _, _ => none
section
variable {P : Program} {t : TypeId} {T : ATy}
theorem ATy.info (h : ATy.of P t = some T) : ∃ i d z, P.info? t = some i ∧ P.underlying t = some d ∧ i.zero = some z ∧ T = ⟨i.size, i.bytes, z.cells.toList, .of d⟩ := by
  unfold ATy.of at h
  split at h
  · split at h
    · simp only [Option.some.injEq] at h
      exact ⟨_, _, _, ‹_›, ‹_›, ‹_›, h.symm⟩
    · cases h
  · cases h
theorem ATy.run_size (h : ATy.of P t = some T) (w : World) : (sizeOf t).run P w = .ok T.size w := by
  obtain ⟨i, d, z, h1, h2, h3, rfl⟩ := ATy.info h
  simp [sizeOf, typeInfo, h1]
theorem ATy.run_zero (h : ATy.of P t = some T) (w : World) : ∃ z, (zeroValue t).run P w = .ok z w ∧ z.cells.toList = T.zero := by
  obtain ⟨i, d, z, h1, h2, h3, rfl⟩ := ATy.info h
  exact ⟨z, by simp [zeroValue, typeInfo, h1, h3], rfl⟩
theorem ATy.run_under (h : ATy.of P t = some T) : ∃ d, P.underlying t = some d ∧ T.desc = .of d := by
  obtain ⟨i, d, z, h1, h2, h3, rfl⟩ := ATy.info h
  exact ⟨d, h2, rfl⟩
theorem ATy.run_isAgg (h : ATy.of P t = some T) (w : World) : (isAgg t).run P w = .ok T.desc.isAgg w := by
  obtain ⟨d, h1, h2⟩ := ATy.run_under h
  rw [h2]
  unfold isAgg
  rw [Sem.run_bind, run_underlying h1 w]
  cases d <;> simp [ADesc.of, ADesc.isAgg]
end
/-! ### values -/
def AV.cells : AV → List AV
  | .agg cs => cs
  | a => [a]
def AV.one : AV → Bool
  | .pv _ | .p _ _ | .os _ _ _ _ | .op _ _ _ _ | .rp _ | .fn _ _ _ | .ifc _ _ | .mp _ => true
  | _ => false
theorem ARel.one' {w : World} {B : BMap} {S : Nat → Prop} {H : List AObj} {a : AV} {v : Value} (h : ARel w B S H a v) (h1 : a.one = true) : v.oneCell' = true := by
  cases h with
  | pv h => exact h.one
  | os _ h1 _ => exact h1
  | op _ h1 _ => exact h1
  | p | rp | fn | ifc | mp => rfl
  | any | agg | tup => simp [AV.one] at h1
def AV.sc (x : Value) : AV := .pv (.sc x)
/-- A constant. -/
def AV.ofV1 : Value → AV
  | .agg cs => if cs.all (·.oneCell') then .agg (cs.toList.map AV.sc) else .any
  | .tuple _ => .any
  | v => .sc v
def AV.ofV : Value → AV
  | .agg cs => if cs.all (·.oneCell') then .agg (cs.toList.map AV.sc) else .any
  | .tuple cs => if cs.all (·.oneCell') then .tup (cs.toList.map AV.sc) else .tup (cs.toList.map AV.ofV1)
  | v => .sc v
section
variable {w : World} {B : BMap} {S : Nat → Prop} {H : List AObj}
theorem ARel.sc {x : Value} (h : x.oneCell' = true) : ARel w B S H (.sc x) x := .pv (.sc h)
theorem ARelL.scs {vs : List Value} (h : ∀ v ∈ vs, v.oneCell' = true) : ARelL w B S H (vs.map AV.sc) vs := by
  refine ⟨by simp, fun j c v hc hv => ?_⟩
  rw [List.getElem?_map, hv] at hc
  simp only [Option.map_some, Option.some.injEq] at hc
  subst hc
  exact .sc (h v (List.mem_of_getElem? hv))
theorem ARel.ofV1 (v : Value) : ARel w B S H (.ofV1 v) v := by
  cases v with
  | agg cs =>
    simp only [AV.ofV1]
    by_cases h : (cs.all (·.oneCell')) = true
    · rw [if_pos h]
      have h' : ∀ v ∈ cs.toList, v.oneCell' = true := fun v hv => (Array.all_eq_true_iff_forall_mem.1 h) v (by simpa using hv)
      have := ARelL.scs (w := w) (B := B) (S := S) (H := H) h'
      have := ARel.agg this.1 h' this.2
      simpa using this
    · rw [if_neg h]; exact .any
  | tuple cs => exact .any
  | _ => exact .sc rfl
theorem ARel.ofV (v : Value) : ARel w B S H (.ofV v) v := by
  cases v with
  | agg cs =>
    simp only [AV.ofV]
    by_cases h : (cs.all (·.oneCell')) = true
    · rw [if_pos h]
      have h' : ∀ v ∈ cs.toList, v.oneCell' = true := fun v hv => (Array.all_eq_true_iff_forall_mem.1 h) v (by simpa using hv)
      have := ARelL.scs (w := w) (B := B) (S := S) (H := H) h'
      have := ARel.agg this.1 h' this.2
      simpa using this
    · rw [if_neg h]; exact .any
  | tuple cs =>
    simp only [AV.ofV]
    by_cases h : (cs.all (·.oneCell')) = true
    · rw [if_pos h]
      have h' : ∀ v ∈ cs.toList, v.oneCell' = true := fun v hv => (Array.all_eq_true_iff_forall_mem.1 h) v (by simpa using hv)
      have := ARelL.scs (w := w) (B := B) (S := S) (H := H) h'
      have := ARel.tup this.1 this.2
      simpa using this
    · rw [if_neg h]
      have := ARel.tup (w := w) (B := B) (S := S) (H := H) (cs := cs.toList.map AV.ofV1) (vs := cs.toList) (by simp) (fun j c v hc hv => by
        rw [List.getElem?_map, hv] at hc
        simp only [Option.map_some, Option.some.injEq] at hc
        subst hc
        exact ARel.ofV1 v)
      simpa using this
  | _ => exact .sc rfl
theorem ARelL.cells {a : AV} {v : Value} (h : ARel w B S H a v) (h1 : ∀ c ∈ a.cells, c.one = true) :
    ARelL w B S H a.cells v.cells.toList ∧ ∀ u ∈ v.cells.toList, u.oneCell' = true := by
  have single : ∀ (a : AV) (v : Value), ARel w B S H a v → a.one = true → ARelL w B S H [a] v.cells.toList ∧ ∀ u ∈ v.cells.toList, u.oneCell' = true := by
    intro a v h h1
    have h2 := h.one' h1
    have hv : v.cells = #[v] := by cases v <;> simp_all [Value.oneCell', Value.cells]
    rw [hv]
    refine ⟨⟨rfl, fun j c u hc hu => ?_⟩, by simpa using h2⟩
    cases j with
    | zero => simp at hc hu; subst hc; subst hu; exact h
    | succ j => simp at hc
  cases h with
  | agg hl h2 h => exact ⟨by simpa [Value.cells, AV.cells] using ⟨hl, h⟩, by simpa [Value.cells] using h2⟩
  | any => exact single _ _ .any (h1 _ (by simp [AV.cells]))
  | tup hl h => exact single _ _ (.tup hl h) (h1 _ (by simp [AV.cells]))
  | pv h => exact single _ _ (.pv h) rfl
  | p a b c => exact single _ _ (.p a b c) rfl
  | os a b c => exact single _ _ (.os a b c) rfl
  | op a b c => exact single _ _ (.op a b c) rfl
  | rp a => exact single _ _ (.rp a) rfl
  | fn a b c d => exact single _ _ (.fn a b c d) rfl
  | ifc a => exact single _ _ (.ifc a) rfl
  | mp a b c => exact single _ _ (.mp a b c) rfl
theorem ARelL.nil : ARelL w B S H [] [] := ⟨rfl, fun j c v h => by simp at h⟩
theorem ARelL.cons {a : AV} {v : Value} {cs : List AV} {vs : List Value} (h : ARel w B S H a v) (k : ARelL w B S H cs vs) : ARelL w B S H (a :: cs) (v :: vs) := by
  refine ⟨by simp [k.1], fun j c u hc hu => ?_⟩
  cases j with
  | zero => simp at hc hu; subst hc; subst hu; exact h
  | succ j => simp at hc hu; exact k.2 j c u hc hu
theorem ARelL.append {asx bs : List AV} {vs us : List Value} (h : ARelL w B S H asx vs) (k : ARelL w B S H bs us) : ARelL w B S H (asx ++ bs) (vs ++ us) := by
  refine ⟨by simp [h.1, k.1], fun j c u hc hu => ?_⟩
  have hl := h.1
  by_cases hj : j < asx.length
  · rw [List.getElem?_append_left hj] at hc
    rw [List.getElem?_append_left (by omega)] at hu
    exact h.2 j c u hc hu
  · rw [List.getElem?_append_right (by omega)] at hc
    rw [List.getElem?_append_right (by omega)] at hu
    exact k.2 _ c u hc (by rw [hl]; exact hu)
theorem ARelL.take {asx : List AV} {vs : List Value} (h : ARelL w B S H asx vs) (n : Nat) : ARelL w B S H (asx.take n) (vs.take n) := by
  refine ⟨by simp [h.1], fun j c u hc hu => ?_⟩
  rw [List.getElem?_take] at hc hu
  split at hc
  · rw [if_pos ‹_›] at hu; exact h.2 j c u hc hu
  · cases hc
theorem ARelL.drop {asx : List AV} {vs : List Value} (h : ARelL w B S H asx vs) (n : Nat) : ARelL w B S H (asx.drop n) (vs.drop n) := by
  refine ⟨by simp [h.1], fun j c u hc hu => ?_⟩
  rw [List.getElem?_drop] at hc hu
  exact h.2 _ c u hc hu
theorem ARelL.set {asx : List AV} {vs : List Value} (h : ARelL w B S H asx vs) (n : Nat) {a : AV} {v : Value} (k : ARel w B S H a v) : ARelL w B S H (asx.set n a) (vs.set n v) := by
  refine ⟨by simp [h.1], fun j c u hc hu => ?_⟩
  rw [List.getElem?_set] at hc hu
  have hl := h.1
  by_cases e : n = j
  · subst e
    rw [if_pos rfl] at hc hu
    split at hc
    · rw [if_pos (by omega)] at hu
      simp only [Option.some.injEq] at hc hu
      subst hc; subst hu; exact k
    · cases hc
  · rw [if_neg e] at hc hu
    exact h.2 j c u hc hu
end
def BMap.put (B : BMap) (n : Nat) (x : Nat × Nat) : BMap := fun i => if i = n then some x else B i
@[simp] theorem BMap.put_same (B : BMap) (n : Nat) (x : Nat × Nat) : B.put n x n = some x := by simp [BMap.put]
theorem BMap.put_ne (B : BMap) {n i : Nat} (x : Nat × Nat) (h : i ≠ n) : B.put n x i = B i := by simp [BMap.put, h]
section
variable {w : World} {B : BMap} {S : Nat → Prop} {H : List AObj}
theorem upd_alloc (hr : HRel w B S H) (o : Obj) (o' : AObj) (c : Nat) :
    Upd w B H (w.alloc o) (B.put H.length (w.heap.size, c)) (H ++ [o']) H.length o' w.heap.size where
  os := rfl
  tape := rfl
  output := rfl
  size := by simp
  heap := fun b hb _ _ => heap_alloc_old w o b hb
  blk := .inr (Nat.le_refl _)
  bOld := fun id h => BMap.put_ne B _ h
  bNew := fun b d h => by simp at h; omega
  hOld := fun id h => by
    rw [List.getElem?_append]
    split
    · rfl
    · rename_i h'
      rw [List.getElem?_eq_none (by simp; omega), List.getElem?_eq_none (by omega)]
  hNew := by simp
  len := by simp
  arr := fun t sz rows h => by simp at h
  cel := fun h => absurd h (by omega)
theorem alloc_cells (hr : HRel w B S H) (t : TypeId) {cs : List AV} {vs : List Value} (h : ARelL w B S H cs vs) (h1 : ∀ v ∈ vs, v.oneCell' = true) :
    ∃ B', Step w B S H (w.alloc (.cells vs.toArray t)) B' S (H ++ [.cells t cs]) ∧ HRel (w.alloc (.cells vs.toArray t)) B' S (H ++ [.cells t cs]) ∧
      ARel (w.alloc (.cells vs.toArray t)) B' S (H ++ [.cells t cs]) (.p H.length 0) (.pointer (some ⟨w.heap.size, 0, none⟩)) := by
  have u := upd_alloc hr (.cells vs.toArray t) (.cells t cs) 0
  have st := u.step hr
  refine ⟨_, st, u.hrel hr ⟨w.heap.size, 0, vs, BMap.put_same _ _ _, heap_alloc_new w _, h.mono st, h1⟩, ?_⟩
  exact .p (BMap.put_same _ _ _) (by simp) (by simp)
theorem alloc_arr (hr : HRel w B S H) (t : TypeId) {sz : Nat} {rows : List (List AV)} {vs : List Value} (cap : Nat) (hsz : 0 < sz) (hrow : ∀ r ∈ rows, r.length = sz)
    (hcap : rows.length ≤ cap) (hm : cap ≤ maxLen) (hlen : vs.length = cap * sz) (h : ARelL w B S H rows.flatten (vs.take (rows.length * sz))) (h1 : ∀ v ∈ vs, v.oneCell' = true) :
    ∃ B', Step w B S H (w.alloc (.cells vs.toArray t)) B' S (H ++ [.arr t sz rows]) ∧ HRel (w.alloc (.cells vs.toArray t)) B' S (H ++ [.arr t sz rows]) ∧
      ARel (w.alloc (.cells vs.toArray t)) B' S (H ++ [.arr t sz rows]) (.os H.length 0 rows.length rows.length) (.slice (some ⟨w.heap.size, 0, none⟩) rows.length cap) := by
  have u := upd_alloc hr (.cells vs.toArray t) (.arr t sz rows) cap
  have st := u.step hr
  refine ⟨_, st, u.hrel hr ⟨hrow, hsz, .inr ⟨w.heap.size, cap, vs, BMap.put_same _ _ _, heap_alloc_new w _, hcap, hm, hlen, fun v hv => h1 v (List.mem_of_mem_take hv), h.mono st⟩⟩, ?_⟩
  refine .os (by simp) rfl (fun t' sz' rows' he => ?_)
  simp only [List.getElem?_append_right (Nat.le_refl _), Nat.sub_self, List.getElem?_cons_zero, Option.some.injEq, AObj.arr.injEq] at he
  obtain ⟨_, rfl, rfl⟩ := he
  refine ⟨Nat.le_refl _, fun _ => ⟨by omega, ?_⟩⟩
  rw [BMap.put_same]
  exact ⟨hcap, 0, rfl, fun _ => by omega, fun _ => rfl⟩
theorem upd_set (hr : HRel w B S H) {id b c : Nat} (hid : id < H.length) (hd : H[id]? ≠ some .dead) (hB : B id = some (b, c)) (cs : Array Value) (o' : AObj)
    (harr : ∀ t sz rows, H[id]? = some (.arr t sz rows) → ∃ rows', o' = .arr t sz rows' ∧ rows.length = rows'.length)
    (hcel : (∀ t sz rows, H[id]? ≠ some (.arr t sz rows)) → ∀ t sz rows, o' ≠ .arr t sz rows) :
    Upd w B H (w.setRow b cs) B (H.set id o') id o' b where
  os := rfl
  tape := rfl
  output := rfl
  size := by simp
  heap := fun k hk hne _ => setRow_other w b k cs (by omega)
  blk := .inl ⟨c, hB, hid, hd⟩
  bOld := fun _ _ => rfl
  bNew := fun b' d h => by rw [hB] at h; simp at h; omega
  hOld := fun i h => by rw [List.getElem?_set]; rw [if_neg (by omega)]
  hNew := by simp [hid]
  len := by simp
  arr := fun t sz rows h => by
    obtain ⟨rows', h1, h2⟩ := harr t sz rows h
    exact ⟨rows', h1, by omega, fun _ => rfl⟩
  cel := fun _ h => ⟨rfl, hcel h⟩
/-- What a cells object holds. -/
theorem HRel.cells (hr : HRel w B S H) {id : Nat} {t : TypeId} {cs : List AV} (h : H[id]? = some (.cells t cs)) {b c : Nat} (hB : B id = some (b, c)) :
    ∃ vs : List Value, w.heap[b]? = some (.cells vs.toArray t (0, 0)) ∧ ARelL w B S H cs vs ∧ ∀ v ∈ vs, v.oneCell' = true := by
  obtain ⟨b', c', vs, h1, h2, h3, h4⟩ := hr.obj id _ h
  rw [h1] at hB
  simp only [Option.some.injEq, Prod.mk.injEq] at hB
  obtain ⟨rfl, rfl⟩ := hB
  exact ⟨vs, h2, h3, h4⟩
theorem HRel.arr (hr : HRel w B S H) {id : Nat} {t : TypeId} {sz : Nat} {rows : List (List AV)} (h : H[id]? = some (.arr t sz rows)) {b cap : Nat} (hB : B id = some (b, cap)) :
    (∀ r ∈ rows, r.length = sz) ∧ 0 < sz ∧ ∃ cur : List Value, w.heap[b]? = some (.cells cur.toArray t (0, 0)) ∧ rows.length ≤ cap ∧ cap ≤ maxLen ∧ cur.length = cap * sz ∧
          (∀ v ∈ cur.take (rows.length * sz), v.oneCell' = true) ∧ ARelL w B S H rows.flatten (cur.take (rows.length * sz)) := by
  obtain ⟨h0, hp, h⟩ := hr.obj id _ h
  refine ⟨h0, hp, ?_⟩
  rcases h with ⟨h1, _⟩ | ⟨b', cap', cur, h1, h2, h3, h4, h5, h6, h7⟩
  · rw [h1] at hB; cases hB
  · rw [h1] at hB
    simp only [Option.some.injEq, Prod.mk.injEq] at hB
    obtain ⟨rfl, rfl⟩ := hB
    exact ⟨cur, h2, h3, h4, h5, h6, h7⟩
/-- A store into part of a cells object. -/
theorem store_cells {P : Program} (hr : HRel w B S H) {id off : Nat} {t : TypeId} {cs : List AV} (h : H[id]? = some (.cells t cs)) {b c : Nat} (hB : B id = some (b, c))
    {xs : List AV} {us : List Value} (hx : ARelL w B S H xs us) (h1 : ∀ u ∈ us, u.oneCell' = true) (hfit : off + xs.length ≤ cs.length) :
    ∃ w', (storeCells ⟨b, off, none⟩ us).run P w = .ok () w' ∧ Step w B S H w' B S (H.set id (.cells t (cs.take off ++ xs ++ cs.drop (off + xs.length)))) ∧
      HRel w' B S (H.set id (.cells t (cs.take off ++ xs ++ cs.drop (off + xs.length)))) := by
  obtain ⟨vs, h2, h3, h4⟩ := hr.cells h hB
  have hid := (List.getElem?_eq_some_iff.1 h).1
  have hl := hx.1
  have hl3 := h3.1
  have hst := run_storeCells_at P b off t us 0 vs.toArray w h2 (by simp; omega) h1
  simp only [Nat.add_zero] at hst
  have u := upd_set (b := b) (c := c) hr hid (by rw [h]; simp) hB (vs.take off ++ us ++ vs.drop (off + us.length)).toArray (.cells t (cs.take off ++ xs ++ cs.drop (off + xs.length)))
    (fun t sz rows e => by rw [h] at e; cases e) (fun _ t sz rows e => by cases e)
  refine ⟨_, hst, u.step hr, u.hrel hr ?_⟩
  · refine ⟨b, c, vs.take off ++ us ++ vs.drop (off + us.length), hB, setRow_heap w b _ _ t _ h2, ?_, ?_⟩
    · have h5 : ARelL w B S H (cs.drop (off + xs.length)) (vs.drop (off + us.length)) := by rw [hl]; exact h3.drop _
      exact (((h3.take off).append hx).append h5).mono (u.step hr)
    · intro v hv
      simp only [List.mem_append] at hv
      rcases hv with (hv | hv) | hv
      · exact h4 v (List.mem_of_mem_take hv)
      · exact h1 v hv
      · exact h4 v (List.mem_of_mem_drop hv)
theorem add_off (b o n : Nat) : (⟨b, o, none⟩ : Addr).add n = ⟨b, o + n, none⟩ := by unfold Addr.add; split <;> simp_all
/-- A load of part of a cells object. -/
theorem load_cells {P : Program} (hr : HRel w B S H) {id off n : Nat} {t : TypeId} {cs : List AV} (h : H[id]? = some (.cells t cs)) {b c : Nat} (hB : B id = some (b, c))
    (hfit : off + n ≤ cs.length) :
    ∃ us : List Value, (loadCells ⟨b, off, none⟩ n).run P w = .ok us.toArray w ∧ ARelL w B S H ((cs.drop off).take n) us ∧ (∀ u ∈ us, u.oneCell' = true) ∧
      (∀ j u, us[j]? = some u → w.cell? ⟨b, off + j, none⟩ = some u) ∧ us.length = n := by
  obtain ⟨vs, h2, h3, h4⟩ := hr.cells h hB
  have hl3 := h3.1
  have hc : ∀ (j : Nat) (u : Value), ((vs.drop off).take n)[j]? = some u → w.cell? ((⟨b, off, none⟩ : Addr).add j) = some u := by
    intro j u hj
    rw [add_off, cell_of_row w b _ _ t _ h2]
    rw [List.getElem?_take] at hj
    split at hj
    · rw [List.getElem?_drop] at hj; simpa using hj
    · cases hj
  have hlen : ((vs.drop off).take n).length = n := by simp; omega
  have := run_loadCells_list (P := P) w ⟨b, off, none⟩ ((vs.drop off).take n) hc
  rw [hlen] at this
  exact ⟨_, this, (h3.drop off).take n, fun u hu => h4 u (List.mem_of_mem_drop (List.mem_of_mem_take hu)), fun j u hj => by rw [← add_off]; exact hc j u hj, hlen⟩
end
end Go.Proofs.YtpfjlifneibhfaaGreat.AL
namespace Go.Proofs.YtpfjlifneibhfaaGreat.AL
variable [G : GTab]
theorem flatten_get {α : Type} {sz : Nat} : ∀ {rows : List (List α)} (h : ∀ r ∈ rows, r.length = sz) (i j : Nat), j < sz →
    rows.flatten[i * sz + j]? = (rows[i]?).bind (·[j]?)
  | [], _, i, j, _ => by simp
  | r :: rs, h, i, j, hj => by
    have hr : r.length = sz := h r (by simp)
    cases i with
    | zero => simp only [Nat.zero_mul, Nat.zero_add, List.flatten_cons, List.getElem?_cons_zero, Option.bind_some]; rw [List.getElem?_append_left (by omega)]
    | succ i =>
      have e : (i + 1) * sz + j = sz + (i * sz + j) := by rw [Nat.add_mul]; omega
      rw [e, List.flatten_cons, List.getElem?_append_right (by omega), hr, Nat.add_sub_cancel_left, flatten_get (fun x hx => h x (by simp [hx])) i j hj]
      simp
theorem flatten_len {α : Type} {sz : Nat} : ∀ {rows : List (List α)} (h : ∀ r ∈ rows, r.length = sz), rows.flatten.length = rows.length * sz
  | [], _ => by simp
  | r :: rs, h => by
    rw [List.flatten_cons, List.length_append, h r (by simp), flatten_len (fun x hx => h x (by simp [hx])), List.length_cons, Nat.add_mul]
    omega
theorem flatten_set {α : Type} {sz : Nat} : ∀ {rows : List (List α)} (h : ∀ r ∈ rows, r.length = sz) (i off : Nat) (row xs : List α), rows[i]? = some row → off + xs.length ≤ sz →
    (rows.set i (row.take off ++ xs ++ row.drop (off + xs.length))).flatten = rows.flatten.take (i * sz + off) ++ xs ++ rows.flatten.drop (i * sz + off + xs.length)
  | [], _, i, off, row, xs, hi, _ => by simp at hi
  | r :: rs, h, i, off, row, xs, hi, hf => by
    have hr : r.length = sz := h r (by simp)
    cases i with
    | zero =>
      simp only [List.getElem?_cons_zero, Option.some.injEq] at hi
      subst hi
      simp only [List.set_cons_zero, List.flatten_cons, Nat.zero_mul, Nat.zero_add]
      rw [List.take_append_of_le_length (by omega), List.drop_append_of_le_length (by omega)]
      simp [List.append_assoc]
    | succ i =>
      simp only [List.getElem?_cons_succ] at hi
      simp only [List.set_cons_succ, List.flatten_cons]
      rw [flatten_set (fun x hx => h x (by simp [hx])) i off row xs hi hf]
      have e : (i + 1) * sz + off = r.length + (i * sz + off) := by rw [Nat.add_mul]; omega
      rw [e, List.take_length_add_append, Nat.add_assoc r.length, List.drop_length_add_append]
      simp [List.append_assoc]
section
variable {w : World} {B : BMap} {S : Nat → Prop} {H : List AObj}
theorem load_arr {P : Program} (hr : HRel w B S H) {id i off n sz : Nat} {t : TypeId} {rows : List (List AV)} (h : H[id]? = some (.arr t sz rows)) {b c : Nat} (hB : B id = some (b, c))
    {row : List AV} (hi : rows[i]? = some row) (hfit : off + n ≤ sz) :
    ∃ us : List Value, (loadCells ⟨b, i * sz + off, none⟩ n).run P w = .ok us.toArray w ∧ ARelL w B S H ((row.drop off).take n) us ∧ (∀ u ∈ us, u.oneCell' = true) ∧
      (∀ j u, us[j]? = some u → w.cell? ⟨b, i * sz + off + j, none⟩ = some u) ∧ us.length = n := by
  obtain ⟨h0, hsz, cur, h2, h3, h4, h5, h6, h7⟩ := hr.arr h hB
  have hil : i < rows.length := (List.getElem?_eq_some_iff.1 hi).1
  have hrl : row.length = sz := h0 row (List.mem_of_getElem? hi)
  have hmul : i * sz + sz ≤ rows.length * sz := by rw [← Nat.succ_mul]; exact Nat.mul_le_mul_right _ hil
  have hcm : rows.length * sz ≤ c * sz := Nat.mul_le_mul_right _ h3
  have hc : ∀ (j : Nat) (u : Value), ((cur.drop (i * sz + off)).take n)[j]? = some u → w.cell? ((⟨b, i * sz + off, none⟩ : Addr).add j) = some u := by
    intro j u hj
    rw [add_off, cell_of_row w b _ _ t _ h2]
    rw [List.getElem?_take] at hj
    split at hj
    · rw [List.getElem?_drop] at hj; simpa using hj
    · cases hj
  have hlen : ((cur.drop (i * sz + off)).take n).length = n := by simp only [List.length_take, List.length_drop, h5]; omega
  have hld := run_loadCells_list (P := P) w ⟨b, i * sz + off, none⟩ ((cur.drop (i * sz + off)).take n) hc
  rw [hlen] at hld
  refine ⟨_, hld, ⟨by simp only [List.length_take, List.length_drop, hrl]; simp only [List.length_take, List.length_drop, h5]; omega, ?_⟩, fun u hu => ?_, fun j u hj => by rw [← add_off]; exact hc j u hj, hlen⟩
  case refine_2 =>
    obtain ⟨j, hj⟩ := List.getElem?_of_mem hu
    have hj' := hj
    rw [List.getElem?_take] at hj'
    split at hj'
    · rw [List.getElem?_drop] at hj'
      exact h6 u (List.mem_of_getElem? (i := i * sz + off + j) (by rw [List.getElem?_take, if_pos (by omega)]; exact hj'))
    · cases hj'
  intro j x v hx hv
  rw [List.getElem?_take] at hx hv
  split at hx
  · rw [if_pos ‹_›] at hv
    rw [List.getElem?_drop] at hx hv
    have hj : off + j < sz := by have := (List.getElem?_eq_some_iff.1 hx).1; omega
    refine h7.2 (i * sz + (off + j)) x v ?_ ?_
    · rw [flatten_get h0 i (off + j) hj, hi]; exact hx
    · rw [List.getElem?_take, if_pos (by omega)]; rw [← Nat.add_assoc]; exact hv
  · cases hx
theorem splice_take {α : Type} (cur us : List α) (o n : Nat) (h : o + us.length ≤ n) (hn : n ≤ cur.length) :
    (cur.take o ++ us ++ cur.drop (o + us.length)).take n = (cur.take n).take o ++ us ++ (cur.take n).drop (o + us.length) := by
  apply List.ext_getElem?
  intro j
  simp only [List.getElem?_take, List.getElem?_append, List.length_append, List.length_take, List.getElem?_drop]
  have e1 : min o cur.length = o := by omega
  have e2 : min o (min n cur.length) = o := by omega
  rw [e1, e2]
  by_cases h1 : j < o
  · have : j < n := by omega
    simp [h1, this, show j < o + us.length by omega]
  · by_cases h2 : j < o + us.length
    · simp [h1, h2, show j < n by omega]
    · by_cases h3 : j < n
      · simp [h2, h3, show o + us.length + (j - (o + us.length)) < n by omega]
      · simp [h2, h3, show ¬ o + us.length + (j - (o + us.length)) < n by omega]
theorem store_arr {P : Program} (hr : HRel w B S H) {id i off sz : Nat} {t : TypeId} {rows : List (List AV)} (h : H[id]? = some (.arr t sz rows)) {b c : Nat} (hB : B id = some (b, c))
    {row : List AV} (hi : rows[i]? = some row) {xs : List AV} {us : List Value} (hx : ARelL w B S H xs us) (h1 : ∀ u ∈ us, u.oneCell' = true) (hfit : off + xs.length ≤ sz) :
    ∃ w', (storeCells ⟨b, i * sz + off, none⟩ us).run P w = .ok () w' ∧ Step w B S H w' B S (H.set id (.arr t sz (rows.set i (row.take off ++ xs ++ row.drop (off + xs.length))))) ∧
      HRel w' B S (H.set id (.arr t sz (rows.set i (row.take off ++ xs ++ row.drop (off + xs.length))))) := by
  obtain ⟨h0, hsz, cur, h2, h3, h4, h5, h6, h7⟩ := hr.arr h hB
  have hid := (List.getElem?_eq_some_iff.1 h).1
  have hil : i < rows.length := (List.getElem?_eq_some_iff.1 hi).1
  have hrl : row.length = sz := h0 row (List.mem_of_getElem? hi)
  have hmul : i * sz + sz ≤ rows.length * sz := by rw [← Nat.succ_mul]; exact Nat.mul_le_mul_right _ hil
  have hcm : rows.length * sz ≤ c * sz := Nat.mul_le_mul_right _ h3
  have hl := hx.1
  have hst := run_storeCells_at P b (i * sz + off) t us 0 cur.toArray w h2 (by simp; omega) h1
  simp only [Nat.add_zero] at hst
  have u := upd_set (b := b) (c := c) hr hid (by rw [h]; simp) hB (cur.take (i * sz + off) ++ us ++ cur.drop (i * sz + off + us.length)).toArray
    (.arr t sz (rows.set i (row.take off ++ xs ++ row.drop (off + xs.length))))
    (fun t' sz' rows' e => by rw [h] at e; simp only [Option.some.injEq, AObj.arr.injEq] at e; obtain ⟨rfl, rfl, rfl⟩ := e; exact ⟨_, rfl, by simp⟩) (fun e => absurd h (e _ _ _))
  refine ⟨_, hst, u.step hr, u.hrel hr ?_⟩
  · refine ⟨?_, hsz, .inr ⟨b, c, _, hB, setRow_heap w b _ _ t _ h2, by simpa using h3, h4, ?_, ?_, ?_⟩⟩
    · intro r hrm
      rcases List.mem_or_eq_of_mem_set hrm with hrm | rfl
      · exact h0 r hrm
      · simp; omega
    · simp; omega
    · intro v hv
      rw [List.length_set, splice_take cur us (i * sz + off) (rows.length * sz) (by omega) (by omega)] at hv
      simp only [List.mem_append] at hv
      rcases hv with (hv | hv) | hv
      · exact h6 v (List.mem_of_mem_take hv)
      · exact h1 v hv
      · exact h6 v (List.mem_of_mem_drop hv)
    · rw [flatten_set h0 i off row xs hi hfit, List.length_set]
      rw [splice_take cur us (i * sz + off) (rows.length * sz) (by omega) (by omega)]
      have h8 : ARelL w B S H (rows.flatten.drop (i * sz + off + xs.length)) ((cur.take (rows.length * sz)).drop (i * sz + off + us.length)) := by rw [hl]; exact h7.drop _
      exact (((h7.take _).append hx).append h8).mono (u.step hr)
end
end Go.Proofs.YtpfjlifneibhfaaGreat.AL
namespace Go.Proofs.YtpfjlifneibhfaaGreat.AL
variable [G : GTab]
/-- The rows of a slice. -/
def aRows (H : List AObj) (sz : Nat) : AV → Option (List (List AV))
  | .os id off len ext => match H[id]? with
    | some (.arr _ sz' rows) => if rows.length = ext ∧ sz' = sz then some ((rows.drop off).take len) else none
    | _ => none
  | .pv (.rs sz' rows) => if sz' = sz then some (rows.map (·.map AV.pv)) else none
  | .pv (.sc (.slice none 0 0)) => some []
  | _ => none
section
variable {w : World} {B : BMap} {S : Nat → Prop} {H : List AObj}
theorem rows_take {α : Type} {sz : Nat} {rows : List (List α)} (h : ∀ r ∈ rows, r.length = sz) (off len : Nat) :
    ((rows.drop off).take len).flatten = (rows.flatten.drop (off * sz)).take (len * sz) := by
  have hd : ∀ (n : Nat) (rows : List (List α)), (∀ r ∈ rows, r.length = sz) → (rows.drop n).flatten = rows.flatten.drop (n * sz) := by
    intro n
    induction n with
    | zero => intro rows _; simp
    | succ n ih =>
      intro rows h
      cases rows with
      | nil => simp
      | cons r rs =>
        rw [List.drop_succ_cons, ih rs (fun x hx => h x (by simp [hx])), List.flatten_cons, Nat.add_mul, Nat.one_mul, ← h r (by simp), Nat.add_comm (n * r.length), List.drop_length_add_append]
  have ht : ∀ (n : Nat) (rows : List (List α)), (∀ r ∈ rows, r.length = sz) → (rows.take n).flatten = rows.flatten.take (n * sz) := by
    intro n
    induction n with
    | zero => intro rows _; simp
    | succ n ih =>
      intro rows h
      cases rows with
      | nil => simp
      | cons r rs =>
        rw [List.take_succ_cons, List.flatten_cons, List.flatten_cons, ih rs (fun x hx => h x (by simp [hx])), Nat.add_mul, Nat.one_mul, ← h r (by simp), Nat.add_comm (n * r.length), List.take_length_add_append]
  rw [ht len _ (fun r hr => h r (List.mem_of_mem_drop hr)), hd off rows h]
theorem rows_rel (hr : HRel w B S H) {a : AV} {v : Value} {sz : Nat} {rows : List (List AV)} (h : ARel w B S H a v) (hrow : aRows H sz a = some rows) :
    (∀ r ∈ rows, r.length = sz) ∧ ∃ A c, v = .slice A rows.length c ∧ (A = none → rows = []) ∧ rows.length ≤ maxLen ∧ (A = none → c = 0) ∧
      ∃ news : List Value, ARelL w B S H rows.flatten news ∧ (∀ u ∈ news, u.oneCell' = true) ∧ ∀ ad, A = some ad → ∀ j u, news[j]? = some u → w.cell? (ad.add j) = some u := by
  cases h with
  | any | p _ _ _ | op _ _ _ | rp _ | agg _ _ _ | tup _ _ | fn _ _ _ _ | ifc _ | mp _ _ _ => simp [aRows] at hrow
  | pv h =>
    cases h with
    | sc h1 =>
      cases v <;> simp only [aRows] at hrow <;> try (cases hrow; done)
      rename_i A n c
      cases A with
      | some => simp only at hrow; cases hrow
      | none =>
        cases n with
        | succ n => cases hrow
        | zero =>
          cases c with
          | succ c => cases hrow
          | zero =>
            simp only [Option.some.injEq] at hrow
            subst hrow
            exact ⟨by simp, none, 0, rfl, fun _ => rfl, Nat.zero_le _, fun _ => rfl, [], ARelL.nil, by simp, by simp⟩
    | @rs sz' prows A c V hc hm hp hA hsz hcell hrel =>
      simp only [aRows] at hrow
      split at hrow
      · rename_i e
        subst e
        simp only [Option.some.injEq] at hrow
        subst hrow
        have hl : ∀ r ∈ prows.map (·.map AV.pv), r.length = sz' := by
          intro r hr
          obtain ⟨x, hx, rfl⟩ := List.mem_map.1 hr
          simpa using hsz x hx
        have key : ∀ j x, (prows.map (·.map AV.pv)).flatten[j]? = some x → ∃ r p, prows[j / sz']? = some r ∧ r[j % sz']? = some p ∧ x = .pv p := by
          intro j x hx
          have e : j = j / sz' * sz' + j % sz' := by rw [Nat.mul_comm]; exact (Nat.div_add_mod j sz').symm
          rw [e, flatten_get hl _ _ (Nat.mod_lt _ hp)] at hx
          cases hr : prows[j / sz']? with
          | none => rw [List.getElem?_map, hr] at hx; simp at hx
          | some r =>
            rw [List.getElem?_map, hr] at hx
            simp only [Option.map_some, Option.bind_some, List.getElem?_map, Option.map_eq_some_iff] at hx
            obtain ⟨p, hp1, hp2⟩ := hx
            exact ⟨r, p, rfl, hp1, hp2.symm⟩
        have ex : ∀ j, j < prows.length * sz' → ∃ x, (prows.map (·.map AV.pv)).flatten[j]? = some x := by
          intro j hj
          exact ⟨_, List.getElem?_eq_getElem (by rw [flatten_len hl]; simpa using hj)⟩
        refine ⟨hl, A, c, by simp, fun e => ?_, by simp; omega, hA, ?_⟩
        · have := hA e
          have : prows.length = 0 := by omega
          simp [List.eq_nil_of_length_eq_zero this]
        · refine ⟨(List.range (prows.length * sz')).map fun k => V (k / sz') (k % sz'), ⟨by rw [flatten_len hl]; simp, ?_⟩, ?_, ?_⟩
          · intro j x u hx hu
            obtain ⟨r, p, h1, h2, rfl⟩ := key j x hx
            simp only [List.getElem?_map, Option.map_eq_some_iff] at hu
            obtain ⟨k, hk, rfl⟩ := hu
            rw [List.getElem?_range] at hk
            · simp only [Option.some.injEq] at hk
              subst hk
              exact .pv (hrel _ _ _ _ h1 h2)
            · have := (List.getElem?_eq_some_iff.1 hk).1
              simpa using this
          · intro u hu
            obtain ⟨k, hk, rfl⟩ := List.mem_map.1 hu
            obtain ⟨x, hx⟩ := ex k (by simpa using hk)
            obtain ⟨r, p, h1, h2, rfl⟩ := key k x hx
            exact (hrel _ _ _ _ h1 h2).one
          · intro ad had j u hu
            simp only [List.getElem?_map, Option.map_eq_some_iff] at hu
            obtain ⟨k, hk, rfl⟩ := hu
            have hj : j < prows.length * sz' := by have := (List.getElem?_eq_some_iff.1 hk).1; simpa using this
            rw [List.getElem?_range hj] at hk
            simp only [Option.some.injEq] at hk
            subst hk
            obtain ⟨x, hx⟩ := ex j hj
            obtain ⟨r, p, h1, h2, rfl⟩ := key j x hx
            obtain ⟨ad', e1, _, e3⟩ := hcell _ _ _ _ h1 h2
            rw [had] at e1
            simp only [Option.some.injEq] at e1
            subst e1
            rw [← e3]
            congr 2
            rw [Nat.mul_comm]
            exact (Nat.div_add_mod j sz').symm
      · cases hrow
  | @os id off len ext _ hid h1 hl =>
    simp only [aRows] at hrow
    cases hx : H[id]? with
    | none => rw [hx] at hrow; cases hrow
    | some o =>
      rw [hx] at hrow
      cases o with
      | dead => cases hrow
      | cells => cases hrow
      | smap => cases hrow
      | imap => cases hrow
      | arr t sz' rows0 =>
        simp only at hrow
        split at hrow
        · rename_i e
          obtain ⟨e1, e2⟩ := e
          subst e2
          simp only [Option.some.injEq] at hrow
          subst hrow
          have h2 := (hl t sz' rows0 hx).2 e1
          have ho := hr.obj id _ hx
          obtain ⟨hol, hos, hob⟩ := ho
          have hlr : ∀ r ∈ (rows0.drop off).take len, r.length = sz' := fun r hr => hol r (List.mem_of_mem_drop (List.mem_of_mem_take hr))
          unfold OsRel at h2
          have hlen : ((rows0.drop off).take len).length = len := by simp; omega
          refine ⟨hlr, ?_⟩
          cases hB : B id with
          | none =>
            rw [hB] at h2
            obtain ⟨_, h4, h5, h6⟩ := h2
            subst h5
            exact ⟨none, 0, by simpa using h6, fun _ => by simp, by simp, fun _ => rfl, [], by simpa using ARelL.nil, by simp, by simp⟩
          | some bc =>
            obtain ⟨b, cap⟩ := bc
            rw [hB] at h2
            obtain ⟨h3, h4, o', h5, h5a, h5b⟩ := h2
            obtain ⟨_, _, cur, g1, g2, g3, g4, g5, g6⟩ := hr.arr hx hB
            refine ⟨some ⟨b, o', none⟩, cap - off, by rw [hlen]; exact h5, (fun e => by cases e), by omega, (fun e => by cases e), ((cur.take (rows0.length * sz')).drop (off * sz')).take (len * sz'), ?_, ?_, ?_⟩
            · rw [rows_take hol]
              exact (g6.drop _).take _
            · intro u hu; exact g5 u (List.mem_of_mem_drop (List.mem_of_mem_take hu))
            · intro ad had j u hu
              simp only [Option.some.injEq] at had
              subst had
              rw [add_off, cell_of_row w b _ _ t _ g1]
              rw [List.getElem?_take] at hu
              split at hu
              · rename_i hjl
                have hlp : 0 < len := by
                  rcases Nat.eq_zero_or_pos len with h | h
                  · subst h; simp at hjl
                  · exact h
                rw [h5a (by omega)]
                rw [List.getElem?_drop, List.getElem?_take] at hu
                split at hu
                · simpa using hu
                · cases hu
              · cases hu
        · cases hrow
theorem run_append_none {P : Program} {t e ty : TypeId} {T : ATy} (hu : P.underlying t = some (.slice e)) (hT : ATy.of P e = some T) (w : World) (A base : Option Addr) (n cap c : Nat) (h : n ≤ cap) :
    (Builtin.append_ #[t, t] ty #[.slice base n cap, .slice A 0 c]).run P w = .ok (.slice base n cap) w := by
  have hs := ATy.run_size hT
  have hu' : ∀ w, (underlying t).run P w = .ok (.slice e) w := run_underlying hu
  cases A <;> cases base <;> simp [Builtin.append_, hu', hs, Builtin.lenOf, Builtin.firstCells, loadCells, loadCellsFrom, h, storeCells]
theorem ownsRow_one {w : World} {e : TypeId} {sz n : Nat} {v : Value} {xs : List Value} (h : w.ownsRow 0 e sz v n xs) : v.oneCell' = true := by
  rcases h.2 with ⟨rfl, _⟩ | ⟨g, cap, cur, rfl, _⟩ <;> rfl
/-- Where a slice of one's own may be appended to. -/
theorem append_rel {P : Program} (hr : HRel w B S H) {t e ty : TypeId} {T : ATy} (hu : P.underlying t = some (.slice e)) (hT : ATy.of P e = some T) (hz : T.zero.length = T.size) (hsz : 0 < T.size)
    {s x : AV} {v u : Value} (hs : ARel w B S H s v) (hx : ARel w B S H x u) {rows news : List (List AV)} (hn : aRows H T.size x = some news)
    {id : Nat} (hid : (∃ ext, s = .os id 0 ext ext ∧ H[id]? = some (.arr e T.size rows) ∧ rows.length = ext) ∨ (s = .sc (.slice none 0 0) ∧ rows = [] ∧ id = H.length))
    (hb : (rows.length + news.length) * T.bytes ≤ 140737488355328) (hm : rows.length + news.length ≤ maxLen) {H' : List AObj}
    (hH' : H' = if id < H.length then H.set id (.arr e T.size (rows ++ news)) else H ++ [.arr e T.size (rows ++ news)]) :
    ∃ v' w' B', (Builtin.append_ #[t, t] ty #[v, u]).run P w = .ok v' w' ∧ Step w B S H w' B' S H' ∧ HRel w' B' S H' ∧
      ARel w' B' S H' (.os id 0 (rows.length + news.length) (rows.length + news.length)) v' := by
  obtain ⟨hnl, A, c, rfl, hAn, _, _, nv, hnrel, hn1, hncell⟩ := rows_rel hr hx hn
  obtain ⟨i, d, z, hi1, hi2, hi3, hTe⟩ := ATy.info hT
  have hnlen : nv.length = news.length * T.size := by rw [← hnrel.1, flatten_len hnl]
  -- what the old slice is
  have old : (∀ r ∈ rows, r.length = T.size) ∧ ∃ xs, w.ownsRow 0 e T.size v rows.length xs ∧ ARelL w B S H rows.flatten xs ∧ (∀ u ∈ xs, u.oneCell' = true) ∧
      (∀ b, v.ownBlock = some b → ∃ c, B id = some (b, c) ∧ id < H.length ∧ H[id]? ≠ some .dead) ∧ (∃ base n cap, v = .slice base n cap ∧ n ≤ cap ∧ n = rows.length) ∧
      ((id < H.length → OsRel B id T.size 0 rows.length rows.length v) ∧ (¬ id < H.length → v = .slice none 0 0 ∧ rows = [] ∧ id = H.length)) := by
    rcases hid with ⟨ext, rfl, hH, hext⟩ | ⟨rfl, rfl, rfl⟩
    · obtain ⟨hol, _, _⟩ := hr.obj id _ hH
      have hlt := (List.getElem?_eq_some_iff.1 hH).1
      refine ⟨hol, ?_⟩
      cases hs with
      | os _ _ hl =>
        have h2 := (hl _ _ _ hH).2 hext
        subst hext
        have h2' := h2
        unfold OsRel at h2
        cases hB : B id with
        | none =>
          rw [hB] at h2
          obtain ⟨_, _, h4, rfl⟩ := h2
          have : rows = [] := List.eq_nil_of_length_eq_zero h4
          subst this
          exact ⟨[], World.ownsRow_nil _ _ _ _, ARelL.nil, by simp, by simp [Value.ownBlock], ⟨none, 0, 0, rfl, Nat.le_refl _, rfl⟩, fun _ => h2', fun h => absurd hlt h⟩
        | some bc =>
          obtain ⟨b, cap⟩ := bc
          rw [hB] at h2
          obtain ⟨_, h4, o', rfl, _, h4b⟩ := h2
          have := h4b rfl
          subst this
          obtain ⟨_, _, cur, g1, g2, g3, g4, g5, g6⟩ := hr.arr hH hB
          refine ⟨cur.take (rows.length * T.size), ⟨by rw [← g6.1, flatten_len hol], .inr ⟨b, cap, cur.toArray, rfl, Nat.zero_le _, g1, g2, g3, by simpa using g4, by simp⟩⟩, g6, g5, ?_, ⟨_, _, _, rfl, by omega, rfl⟩, fun _ => h2', fun h => absurd hlt h⟩
          intro b' hb'
          simp only [Value.ownBlock, Option.some.injEq] at hb'
          subst hb'
          exact ⟨cap, rfl, hlt, by rw [hH]; simp⟩
    · refine ⟨by simp, ?_⟩
      cases hs with
      | pv h =>
        cases h with
        | sc h1 => exact ⟨[], World.ownsRow_nil _ _ _ _, by simpa using ARelL.nil, by simp, by simp [Value.ownBlock], ⟨none, 0, 0, rfl, Nat.le_refl _, rfl⟩, fun h => absurd h (by omega), fun _ => ⟨rfl, rfl, rfl⟩⟩
  obtain ⟨hol, xs, hown, hxrel, hx1, hblk, ⟨base, n0, cap0, hv, hcap, hn0⟩, hOs, hNil⟩ := old
  have hlen : (rows ++ news).length = rows.length + news.length := by simp
  have hall : ∀ r ∈ rows ++ news, r.length = T.size := by
    intro r h
    rcases List.mem_append.1 h with h | h
    · exact hol r h
    · exact hnl r h
  by_cases hm0 : news.length = 0
  · -- nothing is appended
    have hnn : news = [] := List.eq_nil_of_length_eq_zero hm0
    subst hnn
    have hrun := run_append_none (P := P) (ty := ty) hu hT w A base n0 cap0 c hcap
    rw [← hv] at hrun
    by_cases hlt : id < H.length
    · rw [if_pos hlt] at hH'
      have hHH : H' = H := by
        rw [hH']
        rcases hid with ⟨ext, rfl, hH, hext⟩ | ⟨rfl, rfl, rfl⟩
        · rw [List.append_nil]
          obtain ⟨h1, h2⟩ := List.getElem?_eq_some_iff.1 hH
          rw [← h2]; simp
        · omega
      subst hHH
      refine ⟨v, w, B, hrun, Step.refl _ _ _ _, hr, ?_⟩
      refine .os hlt (ownsRow_one hown) (fun t' sz' rows' he => ?_)
      rcases hid with ⟨ext, rfl, hH, hext⟩ | ⟨rfl, rfl, rfl⟩
      · rw [hH] at he
        simp only [Option.some.injEq, AObj.arr.injEq] at he
        obtain ⟨_, rfl, rfl⟩ := he
        exact ⟨by simp, fun _ => by simpa using hOs hlt⟩
      · omega
    · rw [if_neg hlt] at hH'
      obtain ⟨rfl, rfl, rfl⟩ := hNil hlt
      subst hH'
      have u : Upd w B H w (fun i => if i = H.length then none else B i) (H ++ [.arr e T.size ([] ++ [])]) H.length (.arr e T.size ([] ++ [])) w.heap.size := {
        os := rfl, tape := rfl, output := rfl, size := Nat.le_refl _, heap := fun _ _ _ _ => rfl, blk := .inr (Nat.le_refl _)
        bOld := fun id h => by simp [h]
        bNew := fun b c h => by simp at h
        hOld := fun id h => by
          rw [List.getElem?_append]
          split
          · rfl
          · rw [List.getElem?_eq_none (by simp; omega), List.getElem?_eq_none (by omega)]
        hNew := by simp
        len := by simp
        arr := fun t sz rows h => by simp at h
        cel := fun h => absurd h (by omega) }
      refine ⟨_, w, _, hrun, u.step hr, u.hrel hr ⟨by simp, hsz, .inl ⟨by simp, rfl⟩⟩, ?_⟩
      refine .os (by simp) rfl (fun t' sz' rows' he => ?_)
      simp only [List.getElem?_append_right (Nat.le_refl _), Nat.sub_self, List.getElem?_cons_zero, Option.some.injEq, AObj.arr.injEq] at he
      obtain ⟨_, rfl, rfl⟩ := he
      exact ⟨by simp, fun _ => ⟨by simp, by simp⟩⟩
  · -- something is
    have hA : ∃ ad, A = some ad := by
      cases A with
      | none => exact absurd (by simp [hAn rfl]) hm0
      | some ad => exact ⟨ad, rfl⟩
    obtain ⟨ad, rfl⟩ := hA
    have hTs : i.size = T.size := by rw [hTe]
    have hTb : i.bytes = T.bytes := by rw [hTe]
    have hzl : z.cells.size = T.size := by rw [← hz, hTe]; simp
    obtain ⟨v', w', hrun, hown', hg, hnil, hat⟩ := run_append_own_at (P := P) w 0 t ty e i z T.size T.bytes hu hi1 hi3 hTs hTb hzl hsz v rows.length xs hown ad news.length c nv hnlen (hncell ad rfl) hn1 hm hb (Nat.zero_le _)
    rcases hown'.2 with ⟨rfl, h0⟩ | ⟨g, cap, cur, rfl, _, hgh, hgn, hgm, hgs, hgt⟩
    · omega
    have hidle : id ≤ H.length := by
      rcases hid with ⟨ext, rfl, hH, hext⟩ | ⟨rfl, rfl, rfl⟩
      · exact Nat.le_of_lt (List.getElem?_eq_some_iff.1 hH).1
      · exact Nat.le_refl _
    have hgetid : H'[id]? = some (.arr e T.size (rows ++ news)) := by
      rw [hH']
      split
      · rename_i hlt; simp [hlt]
      · have : id = H.length := by omega
        subst this; simp
    have u : Upd w B H w' (B.put id (g, cap)) H' id (.arr e T.size (rows ++ news)) g := {
      os := hg.os, tape := hg.tape, output := hg.output, size := hg.size
      heap := fun b hb hne hold => hg.block b hb (fun e => by
        obtain ⟨c', h1, h2, h3⟩ := hblk b e.symm
        exact h3 (hold c' h1 h2))
      blk := by
        rcases hat with h | h
        · exact .inl (hblk g (by rw [← h]; rfl))
        · right; simp only [Value.ownBlock, Option.some.injEq] at h; omega
      bOld := fun i h => BMap.put_ne B _ h
      bNew := fun b c h => by simp at h; omega
      hOld := fun i h => by
        rw [hH']
        split
        · rw [List.getElem?_set, if_neg (by omega)]
        · rw [List.getElem?_append]
          split
          · rfl
          · rw [List.getElem?_eq_none (by simp; omega), List.getElem?_eq_none (by omega)]
      hNew := hgetid
      len := by rw [hH']; split <;> simp
      arr := fun t' sz' rows' h => by
        rcases hid with ⟨ext, rfl, hH, hext⟩ | ⟨rfl, rfl, rfl⟩
        · rw [hH] at h
          simp only [Option.some.injEq, AObj.arr.injEq] at h
          obtain ⟨rfl, rfl, rfl⟩ := h
          exact ⟨_, rfl, by simp, fun h => by simp at h; exact absurd (by simp [h]) hm0⟩
        · simp at h
      cel := fun hlt hn => by
        rcases hid with ⟨ext, rfl, hH, hext⟩ | ⟨rfl, rfl, rfl⟩
        · exact absurd hH (hn _ _ _)
        · omega }
    have st := u.step hr
    refine ⟨_, w', _, hrun, st, u.hrel hr ⟨hall, hsz, .inr ⟨g, cap, cur.toList, BMap.put_same _ _ _, by simpa using hgh, by rw [hlen]; exact hgn, hgm, by simpa using hgs, ?_, ?_⟩⟩, ?_⟩
    · rw [hlen, hgt]
      intro y hy
      rcases List.mem_append.1 hy with hy | hy
      · exact hx1 y hy
      · exact hn1 y hy
    · rw [hlen, hgt, List.flatten_append]
      exact (hxrel.append hnrel).mono st
    · refine .os (List.getElem?_eq_some_iff.1 hgetid).1 rfl (fun t' sz' rows' he => ?_)
      rw [hgetid] at he
      simp only [Option.some.injEq, AObj.arr.injEq] at he
      obtain ⟨_, rfl, rfl⟩ := he
      exact ⟨by simp, fun _ => ⟨by omega, by rw [BMap.put_same]; exact ⟨by simpa using hgn, 0, rfl, fun _ => by omega, fun _ => rfl⟩⟩⟩
end
end Go.Proofs.YtpfjlifneibhfaaGreat.AL
namespace Go.Proofs.YtpfjlifneibhfaaGreat.AL
variable [G : GTab]
def Does (P : Program) (w : World) (B : BMap) (S : Nat → Prop) (H : List AObj) (s : Sem Value) (v : AV) (H' : List AObj) : Prop :=
  ∃ r w' B', s.run P w = .ok r w' ∧ Step w B S H w' B' S H' ∧ HRel w' B' S H' ∧ ARel w' B' S H' v r
section
variable {P : Program} {w : World} {B : BMap} {S : Nat → Prop} {H : List AObj}
theorem Does.same {s : Sem Value} {v : AV} {r : Value} (hr : HRel w B S H) (h : s.run P w = .ok r w) (hv : ARel w B S H v r) : Does P w B S H s v H :=
  ⟨r, w, B, h, Step.refl _ _ _ _, hr, hv⟩
def DoesS (P : Program) (w : World) (B : BMap) (S : Nat → Prop) (H : List AObj) (s : Sem Value) (v : AV) : Prop := ∃ r, s.run P w = .ok r w ∧ ARel w B S H v r
theorem DoesS.does {s : Sem Value} {v : AV} (d : DoesS P w B S H s v) (hr : HRel w B S H) : Does P w B S H s v H := by
  obtain ⟨r, h1, h2⟩ := d
  exact Does.same hr h1 h2
theorem does_alloc (hr : HRel w B S H) {t : TypeId} {T : ATy} (hT : ATy.of P t = some T) (h1 : ∀ v ∈ T.zero, v.oneCell' = true) :
    Does P w B S H (Instr.alloc t true (.tuple #[])) (.p H.length 0) (H ++ [.cells t (T.zero.map AV.sc)]) := by
  obtain ⟨z, hz, hzc⟩ := ATy.run_zero hT w
  obtain ⟨B', a, b, c⟩ := alloc_cells hr t (ARelL.scs (w := w) (B := B) (S := S) (H := H) h1) h1
  refine ⟨_, _, B', ?_, a, b, c⟩
  simp only [Instr.alloc, Sem.run_bind, hz, Result.andThen_ok, newVar, newRow, run_newObj, Sem.run_pure]
  rw [← hzc, Array.toArray_toList]
  rfl
theorem does_box (hr : HRel w B S H) {t : TypeId} {a : AV} {v : Value} (h : ARel w B S H a v) (h1 : ∀ c ∈ a.cells, c.one = true) :
    Does P w B S H (Instr.box t v) (.p H.length 0) (H ++ [.cells t a.cells]) := by
  obtain ⟨h2, h3⟩ := ARelL.cells h h1
  obtain ⟨B', a, b, c⟩ := alloc_cells hr t h2 h3
  refine ⟨_, _, B', ?_, a, b, c⟩
  simp only [Instr.box, Sem.run_bind, newVar, newRow, run_newObj, Sem.run_pure, Result.andThen_ok, Array.toArray_toList]
  rfl
/-! #### load -/
def aPart (agg : Bool) (n off : Nat) (cs : List AV) : Option AV :=
  if off + n ≤ cs.length then (if agg then some (.agg ((cs.drop off).take n)) else cs[off]?) else none
def aLoad (H : List AObj) (agg : Bool) (n : Nat) : AV → Option AV
  | .p id off => match H[id]? with
    | some (.cells _ cs) => aPart agg n off cs
    | _ => none
  | .op id i off ext => match H[id]? with
    | some (.arr _ sz rows) => if rows.length = ext then (match rows[i]? with
      | some row => aPart agg n off row
      | none => none) else none
    | _ => none
  | .rp cells => aPart agg n 0 (cells.map AV.pv)
  | _ => none
theorem run_loadVar {t : TypeId} {T : ATy} (hT : ATy.of P t = some T) (w : World) (a : Addr) :
    (loadVar t a).run P w = if T.desc.isAgg then ((loadCells a T.size).run P w).andThen fun cs w' => .ok (.agg cs) w' else (Go.load a).run P w := by
  simp only [loadVar, Sem.run_bind, ATy.run_isAgg hT, Result.andThen_ok, Sem.run_ite, ATy.run_size hT]
  rfl
theorem load_part {t : TypeId} {T : ATy} (hT : ATy.of P t = some T) (hs : T.desc.isAgg = true ∨ T.size = 1) (hr : HRel w B S H) {cs : List AV} {off : Nat} {ad : Addr} {v : AV} (hv : aPart T.desc.isAgg T.size off cs = some v)
    (hl : ∃ us : List Value, (loadCells ad T.size).run P w = .ok us.toArray w ∧ ARelL w B S H ((cs.drop off).take T.size) us ∧ (∀ u ∈ us, u.oneCell' = true) ∧
      (∀ j u, us[j]? = some u → w.cell? (ad.add j) = some u) ∧ us.length = T.size) :
    DoesS P w B S H (loadVar t ad) v := by
  obtain ⟨us, h1, h2, h3, h4, h5⟩ := hl
  unfold aPart at hv
  split at hv
  · rename_i hfit
    split at hv
    · rename_i hagg
      simp only [Option.some.injEq] at hv
      subst hv
      refine ⟨.agg us.toArray, ?_, .agg h2.1 h3 h2.2⟩
      rw [run_loadVar hT, if_pos hagg, h1]
      rfl
    · rename_i hagg
      have hs1 : T.size = 1 := by rcases hs with h | h; exact absurd h hagg; exact h
      rw [hs1] at h5
      obtain ⟨u, rfl⟩ : ∃ u, us = [u] := by
        cases us with
        | nil => simp at h5
        | cons u us => cases us with
          | nil => exact ⟨u, rfl⟩
          | cons => simp at h5
      have hc := h4 0 u rfl
      have h0 : ad.add 0 = ad := by simp [Addr.add]
      rw [h0] at hc
      refine ⟨u, ?_, h2.2 0 v u ?_ rfl⟩
      · rw [run_loadVar hT, if_neg hagg, run_load, hc]
      · rw [List.getElem?_take, if_pos (by omega), List.getElem?_drop]; exact hv
  · cases hv
theorem load_rp {n : Nat} {cells : List PV} {a : Addr} (h : ∀ (j : Nat) (p : PV), cells[j]? = some p → S a.block ∧ ∃ u, w.cell? (a.add j) = some u ∧ PRel w S p u) (hn : n ≤ cells.length) :
    ∃ us : List Value, (loadCells a n).run P w = .ok us.toArray w ∧ ARelL w B S H (((cells.map AV.pv).drop 0).take n) us ∧ (∀ u ∈ us, u.oneCell' = true) ∧
      (∀ j u, us[j]? = some u → w.cell? (a.add j) = some u) ∧ us.length = n := by
  have hc : ∀ j, j < n → ∃ p u, cells[j]? = some p ∧ w.cell? (a.add j) = some u ∧ PRel w S p u := by
    intro j hj
    obtain ⟨_, u, h2, h3⟩ := h j cells[j] (List.getElem?_eq_getElem (by omega))
    exact ⟨cells[j], u, List.getElem?_eq_getElem (by omega), h2, h3⟩
  let us : List Value := (List.range n).map fun j => (w.cell? (a.add j)).getD undef
  have hus : ∀ j u, us[j]? = some u → w.cell? (a.add j) = some u ∧ j < n := by
    intro j u hu
    simp only [us, List.getElem?_map, Option.map_eq_some_iff] at hu
    obtain ⟨k, hk, rfl⟩ := hu
    have hj : j < n := by have := (List.getElem?_eq_some_iff.1 hk).1; simpa using this
    rw [List.getElem?_range hj] at hk
    simp only [Option.some.injEq] at hk
    subst hk
    obtain ⟨p, u, h1, h2, h3⟩ := hc j hj
    rw [h2]; exact ⟨rfl, hj⟩
  have hlen : us.length = n := by simp [us]
  have hld := run_loadCells_list (P := P) w a us (fun j v hv => (hus j v hv).1)
  rw [hlen] at hld
  refine ⟨us, hld, ⟨by simp [hlen]; omega, ?_⟩, ?_, fun j u hu => (hus j u hu).1, hlen⟩
  · intro j x u hx hu
    obtain ⟨h1, hj⟩ := hus j u hu
    obtain ⟨p, u', g1, g2, g3⟩ := hc j hj
    rw [List.getElem?_take, if_pos hj, List.drop_zero, List.getElem?_map, g1] at hx
    simp only [Option.map_some, Option.some.injEq] at hx
    subst hx
    rw [h1] at g2
    simp only [Option.some.injEq] at g2
    subst g2
    exact .pv g3
  · intro u hu
    obtain ⟨j, hj⟩ := List.getElem?_of_mem hu
    obtain ⟨h1, hjn⟩ := hus j u hj
    obtain ⟨p, u', g1, g2, g3⟩ := hc j hjn
    rw [h1] at g2
    simp only [Option.some.injEq] at g2
    subst g2
    exact g3.one
theorem does_loadS {t : TypeId} {T : ATy} (hT : ATy.of P t = some T) (hs : T.desc.isAgg = true ∨ T.size = 1) (hr : HRel w B S H) {a v : AV} {x : Value} (h : ARel w B S H a x)
    (hv : aLoad H T.desc.isAgg T.size a = some v) : ∃ ad, x = .pointer (some ad) ∧ DoesS P w B S H (loadVar t ad) v := by
  cases h with
  | any | pv _ | os _ _ _ | agg _ _ _ | tup _ _ | fn _ _ _ _ | ifc _ | mp _ _ _ => simp [aLoad] at hv
  | @p id off b c hb hid hk =>
    simp only [aLoad] at hv
    cases hx : H[id]? with
    | none => rw [hx] at hv; cases hv
    | some o =>
      rw [hx] at hv
      cases o with
      | dead => cases hv
      | arr => cases hv
      | smap => cases hv
      | imap => cases hv
      | cells t' cs =>
        simp only at hv
        have hfit : off + T.size ≤ cs.length := by unfold aPart at hv; split at hv; assumption; cases hv
        obtain ⟨us, h1, h2, h3, h4, h5⟩ := load_cells (P := P) hr hx hb hfit
        have := load_part hT hs hr hv ⟨us, h1, h2, h3, fun j u hj => by rw [add_off]; exact h4 j u hj, h5⟩
        exact ⟨_, rfl, this⟩
  | @op id i off ext _ hid h1 hl =>
    simp only [aLoad] at hv
    cases hx : H[id]? with
    | none => rw [hx] at hv; cases hv
    | some o =>
      rw [hx] at hv
      cases o with
      | dead => cases hv
      | cells => cases hv
      | smap => cases hv
      | imap => cases hv
      | arr t' sz rows =>
        simp only at hv
        split at hv
        · rename_i e
          obtain ⟨g1, g2, b, c, hB, rfl⟩ := (hl _ _ _ hx).2 e
          split at hv
          · rename_i row hi
            have hrow := (hr.arr hx hB).1 row (List.mem_of_getElem? hi)
            have hfit : off + T.size ≤ sz := by unfold aPart at hv; split at hv; omega; cases hv
            obtain ⟨us, h1, h2, h3, h4, h5⟩ := load_arr (P := P) hr hx hB hi hfit
            have := load_part hT hs hr hv ⟨us, h1, h2, h3, fun j u hj => by rw [add_off]; exact h4 j u hj, h5⟩
            exact ⟨_, rfl, this⟩
          · cases hv
        · cases hv
  | @rp cells a h =>
    simp only [aLoad] at hv
    have hfit : T.size ≤ cells.length := by unfold aPart at hv; split at hv; simp_all; cases hv
    have := load_part hT hs hr hv (load_rp h hfit)
    exact ⟨_, rfl, this⟩
theorem does_load {t : TypeId} {T : ATy} (hT : ATy.of P t = some T) (hs : T.desc.isAgg = true ∨ T.size = 1) (hr : HRel w B S H) {a v : AV} {x : Value} (h : ARel w B S H a x)
    (hv : aLoad H T.desc.isAgg T.size a = some v) : Does P w B S H (Instr.loadAt t x) v H := by
  obtain ⟨ad, rfl, d⟩ := does_loadS hT hs hr h hv
  have := d.does hr
  simpa [Does, Instr.loadAt, Instr.sureAddr] using this
/-! #### store -/
def aSplice (off : Nat) (xs cs : List AV) : List AV := cs.take off ++ xs ++ cs.drop (off + xs.length)
def aStore (H : List AObj) (n : Nat) (a v : AV) : Option (List AObj) :=
  if v.cells.length = n ∧ v.cells.all AV.one = true then
    match a with
    | .p id off => match H[id]? with
      | some (.cells t cs) => if off + n ≤ cs.length then some (H.set id (.cells t (aSplice off v.cells cs))) else none
      | _ => none
    | .op id i off ext => match H[id]? with
      | some (.arr t sz rows) => if rows.length = ext ∧ off + n ≤ sz then (match rows[i]? with
        | some row => some (H.set id (.arr t sz (rows.set i (aSplice off v.cells row))))
        | none => none) else none
      | _ => none
    | _ => none
  else none
def DoesU (P : Program) (w : World) (B : BMap) (S : Nat → Prop) (H : List AObj) (s : Sem Unit) (H' : List AObj) : Prop :=
  ∃ w' B', s.run P w = .ok () w' ∧ Step w B S H w' B' S H' ∧ HRel w' B' S H'
theorem does_store {t : TypeId} {T : ATy} (hT : ATy.of P t = some T) (hr : HRel w B S H) {a v : AV} {x y : Value} (h : ARel w B S H a x) (hy : ARel w B S H v y) {H' : List AObj}
    (hH : aStore H T.size a v = some H') : DoesU P w B S H (Instr.storeAt t x y) H' := by
  unfold aStore at hH
  split at hH
  · rename_i hc
    obtain ⟨hcl, hco⟩ := hc
    obtain ⟨hrel, h1⟩ := ARelL.cells hy (fun c hc => List.all_eq_true.1 hco c hc)
    have hsz : y.cells.size = T.size := by have := hrel.1; simp at this; omega
    have hrun : ∀ ad, (Instr.storeAt t (.pointer (some ad)) y).run P w = (storeCells ad y.cells.toList).run P w := by
      intro ad
      simp [Instr.storeAt, Instr.sureAddr, storeVar, ATy.run_size hT, hsz]
    cases h with
    | any | pv _ | os _ _ _ | rp _ | agg _ _ _ | tup _ _ | fn _ _ _ _ | ifc _ | mp _ _ _ => simp at hH
    | @p id off b c hb hid hk =>
      simp only at hH
      cases hx : H[id]? with
      | none => rw [hx] at hH; cases hH
      | some o =>
        rw [hx] at hH
        cases o with
        | dead => cases hH
        | arr => cases hH
        | smap => cases hH
        | imap => cases hH
        | cells t' cs =>
          simp only at hH
          split at hH
          · simp only [Option.some.injEq] at hH
            subst hH
            obtain ⟨w', a, b, c⟩ := store_cells (P := P) (xs := v.cells) (off := off) hr hx hb hrel h1 (by omega)
            exact ⟨w', B, by rw [hrun]; exact a, b, c⟩
          · cases hH
    | @op id i off ext _ hid h1' hl =>
      simp only at hH
      cases hx : H[id]? with
      | none => rw [hx] at hH; cases hH
      | some o =>
        rw [hx] at hH
        cases o with
        | dead => cases hH
        | cells => cases hH
        | smap => cases hH
        | imap => cases hH
        | arr t' sz rows =>
          simp only at hH
          split at hH
          · rename_i e
            obtain ⟨g1, g2, b, c, hB, rfl⟩ := (hl _ _ _ hx).2 e.1
            split at hH
            · rename_i row hi
              simp only [Option.some.injEq] at hH
              subst hH
              obtain ⟨w', a, b', c'⟩ := store_arr (P := P) (xs := v.cells) (off := off) hr hx hB hi hrel h1 (by omega)
              exact ⟨w', B, by rw [hrun]; exact a, b', c'⟩
            · cases hH
          · cases hH
  · cases hH
end
end Go.Proofs.YtpfjlifneibhfaaGreat.AL
namespace Go.Proofs.YtpfjlifneibhfaaGreat.AL
variable [G : GTab]
theorem add_add (a : Addr) (n j : Nat) : (a.add n).add j = a.add (n + j) := by
  unfold Addr.add
  by_cases hn : n = 0
  · subst hn; simp
  · by_cases hj : j = 0
    · subst hj; simp [hn]
    · have : ¬ n + j = 0 := by omega
      simp [hn, hj, this]; omega
section
variable {P : Program} {w : World} {B : BMap} {S : Nat → Prop} {H : List AObj}
/-- An address moved on. -/
def aOff (H : List AObj) (n : Nat) : AV → Option AV
  | .p id off => some (.p id (off + n))
  | .op id i off ext => match H[id]? with
    | some (.arr _ sz rows) => if rows.length = ext ∧ off + n < sz then some (.op id i (off + n) ext) else none
    | _ => none
  | .rp cells => some (.rp (cells.drop n))
  | _ => none
theorem off_rel {n : Nat} {a b : AV} {v : Value} (h : ARel w B S H a v) (hb : aOff H n a = some b) :
    ∃ ad : Addr, v = .pointer (some ad) ∧ ARel w B S H b (.pointer (some (ad.add n))) := by
  cases h with
  | any | pv _ | os _ _ _ | agg _ _ _ | tup _ _ | fn _ _ _ _ | ifc _ | mp _ _ _ => simp [aOff] at hb
  | @p id off b' c h1 h2 h3 =>
    simp only [aOff, Option.some.injEq] at hb
    subst hb
    exact ⟨_, rfl, by rw [add_off]; exact .p h1 h2 h3⟩
  | @op id i off ext _ hid h1 hl =>
    simp only [aOff] at hb
    cases hx : H[id]? with
    | none => rw [hx] at hb; cases hb
    | some o =>
      rw [hx] at hb
      cases o with
      | dead => cases hb
      | cells => cases hb
      | smap => cases hb
      | imap => cases hb
      | arr t sz rows =>
        simp only at hb
        split at hb
        · rename_i e
          simp only [Option.some.injEq] at hb
          subst hb
          obtain ⟨g0, g⟩ := hl _ _ _ hx
          obtain ⟨g1, g2, b', c, hB, rfl⟩ := g e.1
          refine ⟨_, rfl, .op hid rfl (fun t' sz' rows' he => ?_)⟩
          rw [hx] at he
          simp only [Option.some.injEq, AObj.arr.injEq] at he
          obtain ⟨rfl, rfl, rfl⟩ := he
          exact ⟨g0, fun _ => ⟨g1, e.2, b', c, hB, by rw [add_off, Nat.add_assoc]⟩⟩
        · cases hb
  | @rp cells a h =>
    simp only [aOff, Option.some.injEq] at hb
    subst hb
    refine ⟨a, rfl, .rp (fun j p hj => ?_)⟩
    rw [List.getElem?_drop] at hj
    obtain ⟨h1, u, h2, h3⟩ := h _ _ hj
    exact ⟨by rw [add_block]; exact h1, u, by rw [add_add]; exact h2, h3⟩
def aField (P : Program) (s : TypeId) (f : Nat) : Option (Nat × ATy) :=
  match ATy.of P s with
  | some T => match T.desc with
    | .struct fs => match fs[f]? with
      | some (off, ft) => (ATy.of P ft).map fun F => (off, F)
      | none => none
    | _ => none
  | none => none
theorem field_run {s : TypeId} {f off : Nat} {F : ATy} (h : aField P s f = some (off, F)) (w : World) :
    ∃ fs fd, (underlying s).run P w = .ok (.struct fs) w ∧ fs[f]? = some fd ∧ fd.offset = off ∧ ATy.of P fd.type = some F := by
  unfold aField at h
  split at h
  · rename_i T hT
    obtain ⟨d, h1, h2⟩ := ATy.run_under hT
    split at h
    · rename_i fs hd
      split at h
      · rename_i off' ft hfs
        simp only [Option.map_eq_some_iff, Prod.mk.injEq] at h
        obtain ⟨F', hF, rfl, rfl⟩ := h
        rw [h2] at hd
        cases d <;> simp only [ADesc.of] at hd <;> try (cases hd; done)
        rename_i fds
        simp only [ADesc.struct.injEq] at hd
        subst hd
        rw [List.getElem?_map] at hfs
        cases hx : fds.toList[f]? with
        | none => rw [hx] at hfs; cases hfs
        | some fd =>
          rw [hx] at hfs
          simp only [Option.map_some, Option.some.injEq, Prod.mk.injEq] at hfs
          obtain ⟨rfl, rfl⟩ := hfs
          exact ⟨fds, fd, run_underlying h1 w, by simpa using hx, rfl, hF⟩
      · cases h
    · cases h
  · cases h
theorem does_fieldAddr (hr : HRel w B S H) {s : TypeId} {f off : Nat} {F : ATy} (hF : aField P s f = some (off, F)) (hsz : 0 < F.size) {a b : AV} {v : Value} (h : ARel w B S H a v)
    (hb : aOff H off a = some b) : Does P w B S H (Instr.fieldAt s v f) b H := by
  obtain ⟨ad, rfl, hrel⟩ := off_rel h hb
  obtain ⟨fs, fd, h1, h2, h3, h4⟩ := field_run hF w
  refine Does.same hr (r := .pointer (some (ad.add off))) ?_ hrel
  have : F.size ≠ 0 := by omega
  simp [Instr.fieldAt, h1, h2, Instr.sureAddr, fieldPlace, ATy.run_size h4, this, h3]
/-- A part of an aggregate. -/
def aPartV (T : ATy) (off : Nat) (cs : List AV) : Option AV :=
  if T.desc.isAgg then (if off + T.size ≤ cs.length then some (.agg ((cs.drop off).take T.size)) else none) else cs[off]?
theorem part_rel {t : TypeId} {T : ATy} (hT : ATy.of P t = some T) {cs : List AV} {vs : List Value} (hl : cs.length = vs.length) (h1 : ∀ v ∈ vs, v.oneCell' = true)
    (h : ∀ (j : Nat) (c : AV) (v : Value), cs[j]? = some c → vs[j]? = some v → ARel w B S H c v) {off : Nat} {b : AV} (hb : aPartV T off cs = some b) :
    ∃ r, (part t vs.toArray off).run P w = .ok r w ∧ ARel w B S H b r := by
  unfold aPartV at hb
  split at hb
  · rename_i hagg
    split at hb
    · simp only [Option.some.injEq] at hb
      subst hb
      refine ⟨.agg ((vs.drop off).take T.size).toArray, ?_, ?_⟩
      · simp only [part, Sem.run_bind, ATy.run_isAgg hT, Result.andThen_ok, Sem.run_ite, hagg, if_true, ATy.run_size hT, Sem.run_pure]
        congr 2
        simp [List.extract_eq_take_drop]
      · have hh : ARelL w B S H cs vs := ⟨hl, h⟩
        have := (hh.drop off).take T.size
        exact .agg this.1 (fun v hv => h1 v (List.mem_of_mem_drop (List.mem_of_mem_take hv))) this.2
    · cases hb
  · rename_i hagg
    have hlt : off < vs.length := by have := (List.getElem?_eq_some_iff.1 hb).1; omega
    refine ⟨vs[off], ?_, h off b _ hb (List.getElem?_eq_getElem hlt)⟩
    simp only [part, Sem.run_bind, ATy.run_isAgg hT, Result.andThen_ok, Sem.run_ite, hagg, Bool.false_eq_true, if_false]
    simp [hlt]
theorem does_field (hr : HRel w B S H) {s : TypeId} {f off : Nat} {F : ATy} (hF : aField P s f = some (off, F)) {cs : List AV} {b : AV} {v : Value} (h : ARel w B S H (.agg cs) v)
    (hb : aPartV F off cs = some b) : Does P w B S H (Instr.field s v f) b H := by
  obtain ⟨fs, fd, h1, h2, h3, h4⟩ := field_run hF w
  cases h with
  | agg hl h1' h =>
    obtain ⟨r, hrun, hrel⟩ := part_rel h4 hl h1' h hb
    refine Does.same hr (r := r) ?_ hrel
    subst h3
    simp [Instr.field, h1, h2, asAgg, hrun]
/-! #### indexes -/
def aIndexAddr (P : Program) (H : List AObj) (t : TypeId) (a : AV) (n : Int) : Option AV :=
  match ATy.of P t with
  | some T => match T.desc with
    | .slice e => match ATy.of P e with
      | some E => match a with
        | .os id off len ext => match H[id]? with
          | some (.arr _ sz rows) => if rows.length = ext ∧ sz = E.size ∧ 0 ≤ n ∧ n < len then some (.op id (off + n.toNat) 0 ext) else none
          | _ => none
        | .pv (.rs sz rows) => if sz = E.size ∧ 0 ≤ n then (rows[n.toNat]?).map .rp else none
        | _ => none
      | none => none
    | .array len e => match ATy.of P e with
      | some E => if 0 ≤ n ∧ n < len then aOff H (n.toNat * E.size) a else none
      | none => none
    | _ => none
  | none => none
theorem does_indexAddr (hr : HRel w B S H) {t : TypeId} {a b : AV} {k : IntKind} {n : Int} {v : Value} (h : ARel w B S H a v) (hb : aIndexAddr P H t a n = some b) :
    Does P w B S H (Instr.indexAt t v (.int k n)) b H := by
  unfold aIndexAddr at hb
  split at hb
  · rename_i T hT
    obtain ⟨d, hd1, hd2⟩ := ATy.run_under hT
    have hu := fun w => run_underlying hd1 w
    split at hb
    · -- a slice
      rename_i e he
      rw [hd2] at he
      cases d <;> simp only [ADesc.of] at he <;> try (cases he; done)
      simp only [ADesc.slice.injEq] at he
      subst he
      rename_i e
      split at hb
      · rename_i E hE
        have hs := fun w => ATy.run_size hE w
        split at hb
        · -- own
          rename_i id off len ext
          split at hb
          · rename_i t' sz rows hx
            split at hb
            · rename_i hc
              obtain ⟨c1, rfl, c3, c4⟩ := hc
              simp only [Option.some.injEq] at hb
              subst hb
              cases h with
              | os hid h1 hl =>
                obtain ⟨g0, g⟩ := hl _ _ _ hx
                have h2 := g c1
                unfold OsRel at h2
                have hne : len ≠ 0 := by omega
                cases hB : B id with
                | none => rw [hB] at h2; omega
                | some bc =>
                  obtain ⟨b, cap⟩ := bc
                  rw [hB] at h2
                  obtain ⟨h3, h4, o', rfl, h5, h6⟩ := h2
                  have := h5 (by omega)
                  subst this
                  obtain ⟨_, hsz, _⟩ := hr.arr hx hB
                  refine Does.same hr (r := .pointer (some ⟨b, (off + n.toNat) * E.size + 0, none⟩)) ?_ ?_
                  · simp only [Instr.indexAt, asIntOf, Sem.run_bind, Sem.run_pure, Result.andThen_ok, hu]
                    simp [c3, c4, hs, add_off, Nat.add_mul]
                  · refine .op hid rfl (fun t'' sz' rows' he => ?_)
                    rw [hx] at he
                    simp only [Option.some.injEq, AObj.arr.injEq] at he
                    obtain ⟨rfl, rfl, rfl⟩ := he
                    exact ⟨g0, fun _ => ⟨by omega, hsz, b, cap, hB, rfl⟩⟩
            · cases hb
          · cases hb
        · -- read
          rename_i sz rows
          split at hb
          · rename_i hc
            obtain ⟨rfl, c3⟩ := hc
            cases hrow : rows[n.toNat]? with
            | none => rw [hrow] at hb; cases hb
            | some r =>
              rw [hrow] at hb
              simp only [Option.map_some, Option.some.injEq] at hb
              subst hb
              have hlt : n.toNat < rows.length := (List.getElem?_eq_some_iff.1 hrow).1
              cases h with
              | pv h =>
                cases h with
                | @rs _ _ A c V hc hm hp hA hsz hcell hrel =>
                  have hrl : r.length = E.size := hsz r (List.mem_of_getElem? hrow)
                  obtain ⟨ad, rfl, _, _⟩ := hcell n.toNat r 0 r[0] hrow (List.getElem?_eq_getElem (by omega))
                  refine Does.same hr (r := .pointer (some (ad.add (n.toNat * E.size)))) ?_ ?_
                  · simp only [Instr.indexAt, asIntOf, Sem.run_bind, Sem.run_pure, Result.andThen_ok, hu]
                    simp [c3, hs]
                    intro h; omega
                  · refine .rp (fun j p hj => ?_)
                    obtain ⟨ad', e1, h2, h3⟩ := hcell _ r j p hrow hj
                    simp only [Option.some.injEq] at e1
                    subst e1
                    exact ⟨by rw [add_block]; exact h2, _, by rw [add_add]; exact h3, hrel _ _ _ _ hrow hj⟩
          · cases hb
        · cases hb
      · cases hb
    · -- an array
      rename_i len e he
      rw [hd2] at he
      cases d <;> simp only [ADesc.of] at he <;> try (cases he; done)
      simp only [ADesc.array.injEq] at he
      obtain ⟨rfl, rfl⟩ := he
      split at hb
      · rename_i E hE
        split at hb
        · rename_i hc
          obtain ⟨ad, rfl, hrel⟩ := off_rel h hb
          refine Does.same hr (r := .pointer (some (ad.add (n.toNat * E.size)))) ?_ hrel
          simp only [Instr.indexAt, asIntOf, Sem.run_bind, Sem.run_pure, Result.andThen_ok, hu]
          simp [hc.1, hc.2, ATy.run_size hE, Instr.sureAddr, hu]
        · cases hb
      · cases hb
    · cases hb
  · cases hb
def aIndex (P : Program) (t : TypeId) (a : AV) (n : Int) : Option AV :=
  match ATy.of P t with
  | some T => match T.desc, a with
    | .array len e, .agg cs => match ATy.of P e with
      | some E => if 0 ≤ n ∧ n < len then aPartV E (n.toNat * E.size) cs else none
      | none => none
    | _, _ => none
  | none => none
theorem does_index (hr : HRel w B S H) {t : TypeId} {a b : AV} {k : IntKind} {n : Int} {v : Value} (h : ARel w B S H a v) (hb : aIndex P t a n = some b) :
    Does P w B S H (Instr.index t v (.int k n)) b H := by
  unfold aIndex at hb
  split at hb
  · rename_i T hT
    obtain ⟨d, hd1, hd2⟩ := ATy.run_under hT
    have hu := fun w => run_underlying hd1 w
    split at hb
    · rename_i len e cs he
      rw [hd2] at he
      cases d <;> simp only [ADesc.of] at he <;> try (cases he; done)
      simp only [ADesc.array.injEq] at he
      obtain ⟨rfl, rfl⟩ := he
      split at hb
      · rename_i E hE
        split at hb
        · rename_i hc
          cases h with
          | agg hl h1 h =>
            obtain ⟨r, hrun, hrel⟩ := part_rel hE hl h1 h hb
            refine Does.same hr (r := r) ?_ hrel
            simp only [Instr.index, asIntOf, Sem.run_bind, Sem.run_pure, Result.andThen_ok, hu]
            simp [hc.1, hc.2, ATy.run_size hE, hrun]
        · cases hb
      · cases hb
    · cases hb
  · cases hb
theorem does_extract (hr : HRel w B S H) {vs : List AV} {i : Nat} {b : AV} {v : Value} (h : ARel w B S H (.tup vs) v) (hb : vs[i]? = some b) :
    Does P w B S H (Instr.extract v i) b H := by
  cases h with
  | @tup _ us hl h =>
    have hlt : i < us.length := by have := (List.getElem?_eq_some_iff.1 hb).1; omega
    refine Does.same hr (r := us[i]) ?_ (h i b _ hb (List.getElem?_eq_getElem hlt))
    simp [Instr.extract, hlt]
/-! #### what is built -/
def aFill (place : Nat → Option (Nat × Nat)) (cells : List AV) : List (Nat × AV) → Option (List AV)
  | [] => some cells
  | (i, v) :: rest => match place i with
    | none => none
    | some (off, size) => if v.cells.length = size ∧ off + size ≤ cells.length ∧ v.cells.all AV.one = true then aFill place (aSplice off v.cells cells) rest else none
theorem fold_splice (off : Nat) : ∀ (us : List Value) (k : Nat) (cur : Array Value), off + k + us.length ≤ cur.size →
    ((us.zipIdx k).foldl (fun cs (c, j) => cs.setIfInBounds (off + j) c) cur).toList = cur.toList.take (off + k) ++ us ++ cur.toList.drop (off + k + us.length)
  | [], k, cur, _ => by simp
  | u :: us, k, cur, h => by
    simp only [List.length_cons] at h
    simp only [List.zipIdx_cons, List.foldl_cons]
    rw [fold_splice off us (k + 1) (cur.setIfInBounds (off + k) u) (by simp; omega)]
    have e := list_seg_step cur.toList (off + k) u us (by simp; omega)
    simpa [Array.toList_setIfInBounds, Nat.add_assoc] using e
theorem fill_rel {place : Nat → Option (Nat × Nat)} : ∀ {ps : List (Nat × AV)} {qs : List (Nat × Value)} {cells : List AV} {cur : List Value} {out : List AV},
    (∀ (j : Nat) (p : Nat × AV) (q : Nat × Value), ps[j]? = some p → qs[j]? = some q → p.1 = q.1 ∧ ARel w B S H p.2 q.2) → ps.length = qs.length → ARelL w B S H cells cur → (∀ v ∈ cur, v.oneCell' = true) →
    aFill place cells ps = some out → ∃ res : List Value, Instr.fill place cur.toArray qs = some res.toArray ∧ ARelL w B S H out res ∧ ∀ v ∈ res, v.oneCell' = true
  | [], [], cells, cur, out, _, _, h, h1, ho => by
    simp only [aFill, Option.some.injEq] at ho
    subst ho
    exact ⟨cur, rfl, h, h1⟩
  | [], q :: qs, _, _, _, _, hl, _, _, _ => by simp at hl
  | p :: ps, [], _, _, _, _, hl, _, _, _ => by simp at hl
  | (i, a) :: ps, (i', v) :: qs, cells, cur, out, hpq, hl, h, h1, ho => by
    obtain ⟨rfl, ha⟩ := hpq 0 (i, a) (i', v) rfl rfl
    simp only at ha
    simp only [aFill] at ho
    split at ho
    · cases ho
    · rename_i off size hpl
      split at ho
      · rename_i hc
        obtain ⟨c1, c2, c3⟩ := hc
        obtain ⟨k1, k2⟩ := ARelL.cells ha (fun c hc => List.all_eq_true.1 c3 c hc)
        have hvs : v.cells.size = size := by have := k1.1; simp at this; omega
        have hcl := h.1
        have hcells : ARelL w B S H (aSplice off a.cells cells) (cur.take off ++ v.cells.toList ++ cur.drop (off + v.cells.toList.length)) := by
          have h5 : ARelL w B S H (cells.drop (off + a.cells.length)) (cur.drop (off + v.cells.toList.length)) := by rw [k1.1]; exact h.drop _
          exact ((h.take off).append k1).append h5
        have hone : ∀ x ∈ cur.take off ++ v.cells.toList ++ cur.drop (off + v.cells.toList.length), x.oneCell' = true := by
          intro x hx
          simp only [List.mem_append] at hx
          rcases hx with (hx | hx) | hx
          · exact h1 x (List.mem_of_mem_take hx)
          · exact k2 x hx
          · exact h1 x (List.mem_of_mem_drop hx)
        obtain ⟨res, r1, r2, r3⟩ := fill_rel (fun j p q hp hq => hpq (j + 1) p q (by simpa using hp) (by simpa using hq)) (by simpa using hl) hcells hone ho
        refine ⟨res, ?_, r2, r3⟩
        simp only [Instr.fill, hpl]
        rw [if_neg (by simp [hvs]; omega)]
        rw [← r1]
        congr 1
        have := fold_splice off v.cells.toList 0 cur.toArray (by simp; omega)
        simp only [Nat.add_zero] at this
        apply Array.ext'
        rw [← Array.foldl_toList, Array.toList_zipIdx]
        simpa using this
      · cases ho
def aZero (T : ATy) : List AV := T.zero.map AV.sc
def aBuild (P : Program) (t : TypeId) (parts : List (Nat × AV)) : Option (List AV) :=
  match ATy.of P t with
  | some T => if T.zero.all (·.oneCell') then (match T.desc with
    | .struct fs => if fs.all (fun x => (ATy.of P x.2).isSome) then aFill (fun i => (fs[i]?).bind fun (off, ft) => (ATy.of P ft).map fun F => (off, F.size)) (aZero T) parts else none
    | .array _ e => match ATy.of P e with
      | some E => aFill (fun i => some (i * E.size, E.size)) (aZero T) parts
      | none => none
    | _ => none) else none
  | none => none
theorem mapM_places {fs : List Field} (h : ∀ f ∈ fs, ∃ F, ATy.of P f.type = some F) (w : World) :
    (fs.mapM fun f => do pure (f.offset, ← sizeOf f.type) : Sem (List (Nat × Nat))).run P w = .ok (fs.map fun f => (f.offset, ((ATy.of P f.type).map (·.size)).getD 0)) w := by
  induction fs with
  | nil => rfl
  | cons f fs ih =>
    obtain ⟨F, hF⟩ := h f (by simp)
    simp only [List.mapM_cons, Sem.run_bind, ATy.run_size hF, Result.andThen_ok, Sem.run_pure, ih (fun g hg => h g (by simp [hg])), List.map_cons, hF]
    rfl
theorem does_build (hr : HRel w B S H) {t : TypeId} (hall : ∀ T fs, ATy.of P t = some T → T.desc = .struct fs → ∀ x ∈ fs, ∃ F, ATy.of P x.2 = some F) {ps : List (Nat × AV)} {qs : Array (Nat × Value)} {out : List AV}
    (hpq : ∀ (j : Nat) (p : Nat × AV) (q : Nat × Value), ps[j]? = some p → qs[j]? = some q → p.1 = q.1 ∧ ARel w B S H p.2 q.2) (hl : ps.length = qs.size) (ho : aBuild P t ps = some out) :
    Does P w B S H (Instr.build t qs) (.agg out) H := by
  unfold aBuild at ho
  split at ho
  · rename_i T hT
    split at ho
    · rename_i hz1
      have hz2 : ∀ v ∈ T.zero, v.oneCell' = true := fun v hv => List.all_eq_true.1 hz1 v hv
      obtain ⟨z, hz, hzc⟩ := ATy.run_zero hT w
      obtain ⟨d, hd1, hd2⟩ := ATy.run_under hT
      have hu := run_underlying hd1 w
      have hzr : ARelL w B S H (aZero T) T.zero := ARelL.scs hz2
      have hpq' : ∀ (j : Nat) (p : Nat × AV) (q : Nat × Value), ps[j]? = some p → qs.toList[j]? = some q → p.1 = q.1 ∧ ARel w B S H p.2 q.2 := fun j p q hp hq => hpq j p q hp (by simpa using hq)
      split at ho
      · rename_i fs hfs
        split at ho
        case isFalse => cases ho
        have hfs' := hfs
        rw [hd2] at hfs
        cases d <;> simp only [ADesc.of] at hfs <;> try (cases hfs; done)
        rename_i fds
        simp only [ADesc.struct.injEq] at hfs
        subst hfs
        have hF : ∀ f ∈ fds.toList, ∃ F, ATy.of P f.type = some F := by
          intro f hf
          exact hall T _ hT hfs' (f.offset, f.type) (List.mem_map.2 ⟨f, hf, rfl⟩)
        obtain ⟨res, r1, r2, r3⟩ := fill_rel (place := fun i => ((fds.toList.map fun f => (f.offset, ((ATy.of P f.type).map (·.size)).getD 0)).toArray)[i]?) hpq' (by simpa using hl) hzr hz2
          (by
            rw [← ho]
            congr 1
            funext i
            simp only [List.getElem?_toArray, List.getElem?_map]
            cases hx : fds.toList[i]? with
            | none => simp
            | some f =>
              obtain ⟨F, hF'⟩ := hF f (List.mem_of_getElem? hx)
              simp [hF'])
        refine Does.same hr (r := .agg res.toArray) ?_ (.agg r2.1 r3 r2.2)
        have hmap : (fds.mapM fun f => do pure (f.offset, ← sizeOf f.type) : Sem (Array (Nat × Nat))).run P w = .ok (fds.toList.map fun f => (f.offset, ((ATy.of P f.type).map (·.size)).getD 0)).toArray w := by
          rw [Array.mapM_eq_mapM_toList, Sem.run_map, mapM_places (P := P) hF w]
          rfl
        simp only [Instr.build, Sem.run_bind, hz, Result.andThen_ok, hu, hmap]
        rw [← hzc] at r1
        simp only [Array.toArray_toList] at r1
        rw [r1]
        rfl
      · rename_i n e hfs
        rw [hd2] at hfs
        cases d <;> simp only [ADesc.of] at hfs <;> try (cases hfs; done)
        simp only [ADesc.array.injEq] at hfs
        obtain ⟨rfl, rfl⟩ := hfs
        split at ho
        · rename_i E hE
          obtain ⟨res, r1, r2, r3⟩ := fill_rel hpq' (by simpa using hl) hzr hz2 ho
          refine Does.same hr (r := .agg res.toArray) ?_ (.agg r2.1 r3 r2.2)
          simp only [Instr.build, Sem.run_bind, hz, Result.andThen_ok, hu, ATy.run_size hE]
          rw [← hzc] at r1
          simp only [Array.toArray_toList] at r1
          rw [r1]
          rfl
        · cases ho
      · cases ho
    · cases ho
  · cases ho
end
end Go.Proofs.YtpfjlifneibhfaaGreat.AL
namespace Go.Proofs.YtpfjlifneibhfaaGreat.AL
variable [G : GTab]
section
variable {P : Program} {w : World} {B : BMap} {S : Nat → Prop} {H : List AObj}
theorem zero_rows (z : Array Value) (n : Nat) : ((Array.range (n * z.size)).map (z[· % z.size]!)).toList = (List.replicate n z.toList).flatten := by
  have hl : ∀ r ∈ List.replicate n z.toList, r.length = z.size := by
    intro r hr
    rw [(List.mem_replicate.1 hr).2]
    simp
  apply List.ext_getElem?
  intro j
  by_cases hj : j < n * z.size
  · have hz : 0 < z.size := by
      rcases Nat.eq_zero_or_pos z.size with h | h
      · rw [h] at hj; simp at hj
      · exact h
    have e : j = j / z.size * z.size + j % z.size := by rw [Nat.mul_comm]; exact (Nat.div_add_mod j z.size).symm
    have hm := Nat.mod_lt j hz
    have hd : j / z.size < n := by rw [Nat.div_lt_iff_lt_mul hz]; exact hj
    have : (List.replicate n z.toList).flatten[j]? = some z[j % z.size] := by
      conv => lhs; rw [e]
      rw [flatten_get hl _ _ hm]
      simp [List.getElem?_replicate, hd, hm]
    rw [this]
    simp [hj, hm]
  · rw [List.getElem?_eq_none (by simp; omega), List.getElem?_eq_none (by rw [flatten_len hl]; simp; omega)]
/-! #### a literal of a slice -/
def aFillRows (sz : Nat) (rows : List (List AV)) : List (Nat × AV) → Option (List (List AV))
  | [] => some rows
  | (i, v) :: rest => if i < rows.length ∧ v.cells.length = sz ∧ v.cells.all AV.one = true then aFillRows sz (rows.set i v.cells) rest else none
theorem fillRows_fill {sz : Nat} : ∀ {ps : List (Nat × AV)} {rows out : List (List AV)}, (∀ r ∈ rows, r.length = sz) → aFillRows sz rows ps = some out →
    aFill (fun i => some (i * sz, sz)) rows.flatten ps = some out.flatten ∧ (∀ r ∈ out, r.length = sz) ∧ out.length = rows.length
  | [], rows, out, h, ho => by
    simp only [aFillRows, Option.some.injEq] at ho
    subst ho
    exact ⟨rfl, h, rfl⟩
  | (i, v) :: ps, rows, out, h, ho => by
    simp only [aFillRows] at ho
    split at ho
    · rename_i hc
      obtain ⟨c1, c2, c3⟩ := hc
      have hset : ∀ r ∈ rows.set i v.cells, r.length = sz := by
        intro r hr
        rcases List.mem_or_eq_of_mem_set hr with hr | rfl
        · exact h r hr
        · exact c2
      obtain ⟨g1, g2, g3⟩ := fillRows_fill hset ho
      have hrow : rows[i]? = some rows[i] := List.getElem?_eq_getElem c1
      have hrl : rows[i].length = sz := h _ (List.getElem_mem c1)
      have hf := flatten_set h i 0 rows[i] v.cells hrow (by omega)
      simp only [List.take_zero, List.nil_append, Nat.zero_add, Nat.add_zero] at hf
      rw [List.drop_of_length_le (by omega), List.append_nil] at hf
      have hmul : i * sz + sz ≤ rows.length * sz := by rw [← Nat.succ_mul]; exact Nat.mul_le_mul_right _ c1
      refine ⟨?_, g2, by simpa using g3⟩
      simp only [aFill]
      rw [if_pos ⟨c2, by rw [flatten_len h]; exact hmul, c3⟩, ← g1, hf]
      rfl
    · cases ho
def aSliceLit (P : Program) (t : TypeId) (len : Nat) (parts : List (Nat × AV)) : Option (TypeId × Nat × List (List AV)) :=
  match ATy.of P t with
  | some T => match T.desc with
    | .slice e => match ATy.of P e with
      | some E => if E.zero.all (·.oneCell') ∧ E.zero.length = E.size ∧ 0 < E.size ∧ len * E.size ≤ 16777216 then (aFillRows E.size (List.replicate len (aZero E)) parts).map fun rows => (e, E.size, rows) else none
      | none => none
    | _ => none
  | none => none
theorem does_buildSlice (hr : HRel w B S H) {t : TypeId} {len : Nat} {ps : List (Nat × AV)} {qs : Array (Nat × Value)} {e sz : Nat} {rows : List (List AV)}
    (hpq : ∀ (j : Nat) (p : Nat × AV) (q : Nat × Value), ps[j]? = some p → qs[j]? = some q → p.1 = q.1 ∧ ARel w B S H p.2 q.2) (hl : ps.length = qs.size) (ho : aSliceLit P t len ps = some (e, sz, rows)) :
    Does P w B S H (Instr.buildSlice t len qs) (.os H.length 0 rows.length rows.length) (H ++ [.arr e sz rows]) := by
  unfold aSliceLit at ho
  split at ho
  · rename_i T hT
    obtain ⟨d, hd1, hd2⟩ := ATy.run_under hT
    have hu := run_underlying hd1 w
    split at ho
    · rename_i e' he
      rw [hd2] at he
      cases d <;> simp only [ADesc.of] at he <;> try (cases he; done)
      simp only [ADesc.slice.injEq] at he
      subst he
      rename_i e'
      split at ho
      · rename_i E hE
        split at ho
        · rename_i hc
          obtain ⟨c1, c2, c3, c4⟩ := hc
          cases hrows : aFillRows E.size (List.replicate len (aZero E)) ps with
          | none => rw [hrows] at ho; cases ho
          | some rows' =>
            rw [hrows] at ho
            simp only [Option.map_some, Option.some.injEq, Prod.mk.injEq] at ho
            obtain ⟨rfl, rfl, rfl⟩ := ho
            have hz2 : ∀ v ∈ E.zero, v.oneCell' = true := fun v hv => List.all_eq_true.1 c1 v hv
            obtain ⟨z, hz, hzc⟩ := ATy.run_zero hE w
            have hrl : ∀ r ∈ List.replicate len (aZero E), r.length = E.size := by
              intro r hr; rw [(List.mem_replicate.1 hr).2]; simp [aZero, c2]
            obtain ⟨g1, g2, g3⟩ := fillRows_fill hrl hrows
            have hzr : ARelL w B S H (List.replicate len (aZero E)).flatten (List.replicate len E.zero).flatten := by
              have : (List.replicate len (aZero E)).flatten = (List.replicate len E.zero).flatten.map AV.sc := by
                simp [aZero, List.map_flatten]
              rw [this]
              exact ARelL.scs (fun v hv => by
                obtain ⟨r, hr, hv⟩ := List.mem_flatten.1 hv
                rw [(List.mem_replicate.1 hr).2] at hv
                exact hz2 v hv)
            obtain ⟨res, r1, r2, r3⟩ := fill_rel (qs := qs.toList) (place := fun i => some (i * E.size, E.size)) (fun j p q hp hq => hpq j p q hp (by simpa using hq)) (by simpa using hl) hzr (by
              intro v hv
              obtain ⟨r, hr, hv⟩ := List.mem_flatten.1 hv
              rw [(List.mem_replicate.1 hr).2] at hv
              exact hz2 v hv) g1
            have hlen : rows'.length = len := by rw [g3]; simp
            have hreslen : res.length = len * E.size := by rw [← r2.1, flatten_len g2, hlen]
            have hm : len ≤ maxLen := by
              have : len ≤ len * E.size := Nat.le_mul_of_pos_right _ c3
              simp only [maxLen]; omega
            obtain ⟨B', a, b, c⟩ := alloc_arr (vs := res) hr e' len c3 g2 (by omega) hm hreslen (by rw [List.take_of_length_le (by rw [hreslen, hlen]; exact Nat.le_refl _)]; exact r2) r3
            rw [hlen] at c
            refine ⟨_, _, B', ?_, a, b, by rw [hlen]; exact c⟩
            have hzs : z.cells.size = E.size := by rw [← c2, ← hzc]; simp
            have hcells : ((Array.range (len * E.size)).map ((if len * E.size = 0 then #[] else z.cells)[· % (if len * E.size = 0 then #[] else z.cells).size]!)).toList = (List.replicate len E.zero).flatten := by
              by_cases h0 : len * E.size = 0
              · have : len = 0 := by
                  rcases Nat.eq_zero_or_pos len with h | h
                  · exact h
                  · have := Nat.mul_pos h c3; omega
                subst this; simp
              · simp only [if_neg h0]
                have := zero_rows z.cells len
                rw [hzs] at this
                rw [hzs, this, hzc]
            have hbig : ¬ len * E.size > 2 ^ 24 := by omega
            simp only [Instr.buildSlice, Sem.run_bind, hu, Result.andThen_ok, ATy.run_size hE, Sem.run_ite, hbig, if_false, Sem.run_pure]
            by_cases h0 : len * E.size = 0
            · simp only [h0, if_true, Result.andThen_ok] at hcells ⊢
              rw [show ((Array.range 0).map (fun x => (#[] : Array Value)[x % (#[] : Array Value).size]!)) = (List.replicate len E.zero).flatten.toArray from Array.ext' hcells, r1]
              rfl
            · simp only [h0, if_false, hz, Result.andThen_ok] at hcells ⊢
              rw [show ((Array.range (len * E.size)).map (fun x => z.cells[x % z.cells.size]!)) = (List.replicate len E.zero).flatten.toArray from Array.ext' hcells, r1]
              rfl
        · cases ho
      · cases ho
    · cases ho
  · cases ho
/-! #### len -/
def aLen (P : Program) (H : List AObj) (t : TypeId) (a : AV) : Option Int :=
  match ATy.of P t with
  | some T => match T.desc, a with
    | .slice _, .os id off len ext => match H[id]? with
      | some (.arr _ _ rows) => if rows.length = ext then some len else none
      | _ => none
    | .slice _, .pv (.rs _ rows) => some rows.length
    | .slice _, .pv (.sc (.slice _ n _)) => some n
    | .str, .pv (.sc (.string s)) => some s.size
    | .array n _, _ => some n
    | _, _ => none
  | none => none
theorem does_len (hr : HRel w B S H) {t ty : TypeId} {a : AV} {n : Int} {v : Value} (h : ARel w B S H a v) (hn : aLen P H t a = some n) :
    Does P w B S H (Builtin.len_ #[t] ty #[v]) (.sc (.int .i64 n)) H := by
  unfold aLen at hn
  split at hn
  · rename_i T hT
    obtain ⟨d, hd1, hd2⟩ := ATy.run_under hT
    have hu := run_underlying hd1 w
    refine Does.same hr (r := .int .i64 n) ?_ (.sc rfl)
    split at hn
    · rename_i e id off len ext he
      rw [hd2] at he
      cases d <;> simp only [ADesc.of] at he <;> try (cases he; done)
      split at hn
      · rename_i t' sz rows hx
        split at hn
        · rename_i hc
          simp only [Option.some.injEq] at hn
          subst hn
          cases h with
          | os hid h1 hl =>
            have h2 := (hl _ _ _ hx).2 hc
            unfold OsRel at h2
            cases hB : B id with
            | none => rw [hB] at h2; obtain ⟨_, _, rfl, rfl⟩ := h2; simp [Builtin.len_, hu, goInt]
            | some bc =>
              obtain ⟨b, cap⟩ := bc
              rw [hB] at h2
              obtain ⟨_, _, o', rfl, _⟩ := h2
              simp [Builtin.len_, hu, goInt]
        · cases hn
      · cases hn
    · rename_i e sz rows he
      rw [hd2] at he
      cases d <;> simp only [ADesc.of] at he <;> try (cases he; done)
      simp only [Option.some.injEq] at hn
      subst hn
      cases h with
      | pv h => cases h with
        | rs => simp [Builtin.len_, hu, goInt]
    · rename_i e A m c he
      rw [hd2] at he
      cases d <;> simp only [ADesc.of] at he <;> try (cases he; done)
      simp only [Option.some.injEq] at hn
      subst hn
      cases h with
      | pv h => cases h with
        | sc => simp [Builtin.len_, hu, goInt]
    · rename_i s he
      rw [hd2] at he
      cases d <;> simp only [ADesc.of] at he <;> try (cases he; done)
      simp only [Option.some.injEq] at hn
      subst hn
      cases h with
      | pv h => cases h with
        | sc => simp [Builtin.len_, hu, goInt]
    · rename_i m e he
      rw [hd2] at he
      cases d <;> simp only [ADesc.of] at he <;> try (cases he; done)
      simp only [ADesc.array.injEq] at he
      obtain ⟨rfl, rfl⟩ := he
      simp only [Option.some.injEq] at hn
      subst hn
      simp [Builtin.len_, hu, goInt]
    · cases hn
  · cases hn
/-! #### s[l:h] -/
def aSlice (P : Program) (H : List AObj) (t : TypeId) (a : AV) (lo hi : Option Int) : Option AV :=
  match ATy.of P t with
  | some T => match T.desc with
    | .slice e => match ATy.of P e with
      | some E => match a with
        | .os id off len ext => match H[id]? with
          | some (.arr _ sz rows) =>
            if rows.length = ext ∧ sz = E.size ∧ 0 ≤ lo.getD 0 ∧ lo.getD 0 ≤ hi.getD len ∧ hi.getD len ≤ len then some (.os id (off + (lo.getD 0).toNat) ((hi.getD len).toNat - (lo.getD 0).toNat) ext) else none
          | _ => none
        | .pv (.rs sz rows) =>
          if sz = E.size ∧ 0 ≤ lo.getD 0 ∧ lo.getD 0 ≤ hi.getD rows.length ∧ hi.getD rows.length ≤ rows.length then
            some (.pv (.rs sz ((rows.drop (lo.getD 0).toNat).take ((hi.getD rows.length).toNat - (lo.getD 0).toNat)))) else none
        | _ => none
      | none => none
    | _ => none
  | none => none
theorem run_bounds (w : World) (len cap : Nat) (hlc : len ≤ cap) (lo hi : Option Int) (k1 k2 : IntKind) (h0 : 0 ≤ lo.getD 0) (h1 : lo.getD 0 ≤ hi.getD len) (h2 : hi.getD len ≤ len) :
    (Instr.sliceBounds true len cap (lo.map (.int k1)) (hi.map (.int k2)) none).run P w = .ok ((lo.getD 0).toNat, (hi.getD len).toNat, cap) w := by
  cases lo with
  | none =>
    cases hi with
    | none => simp [Instr.sliceBounds]
    | some h =>
      simp only [Option.getD_some, Option.getD_none] at *
      have : h ≤ (cap : Int) := by omega
      simp [Instr.sliceBounds, Instr.sliceBound, asIntOf, h1, this]
  | some l =>
    cases hi with
    | none =>
      simp only [Option.getD_some, Option.getD_none] at *
      simp [Instr.sliceBounds, Instr.sliceBound, asIntOf, h0, h1]
    | some h =>
      simp only [Option.getD_some, Option.getD_none] at *
      have : h ≤ (cap : Int) := by omega
      have h3 : 0 ≤ h := by omega
      have h4 : l ≤ max h 0 := by omega
      simp [Instr.sliceBounds, Instr.sliceBound, asIntOf, h0, h1, h3, this, h4]
theorem does_slice (hr : HRel w B S H) {t : TypeId} {a b : AV} {v : Value} {lo hi : Option Int} {k1 k2 : IntKind} (h : ARel w B S H a v) (hb : aSlice P H t a lo hi = some b) :
    Does P w B S H (Instr.sliceAt t v (lo.map (.int k1)) (hi.map (.int k2)) none) b H := by
  unfold aSlice at hb
  split at hb
  · rename_i T hT
    obtain ⟨d, hd1, hd2⟩ := ATy.run_under hT
    have hu := run_underlying hd1 w
    split at hb
    · rename_i e he
      rw [hd2] at he
      cases d <;> simp only [ADesc.of] at he <;> try (cases he; done)
      simp only [ADesc.slice.injEq] at he
      subst he
      split at hb
      · rename_i E hE
        have hs := ATy.run_size hE w
        split at hb
        · rename_i id off len ext
          split at hb
          · rename_i t' sz rows hx
            split at hb
            · rename_i hc
              obtain ⟨c1, rfl, c3, c4, c5⟩ := hc
              simp only [Option.some.injEq] at hb
              subst hb
              cases h with
              | os hid h1 hl =>
                obtain ⟨g0, g⟩ := hl _ _ _ hx
                have h2 := g c1
                have back : ∀ v', v'.oneCell' = true → OsRel B id E.size (off + (lo.getD 0).toNat) ((hi.getD len).toNat - (lo.getD 0).toNat) ext v' →
                    ARel w B S H (.os id (off + (lo.getD 0).toNat) ((hi.getD len).toNat - (lo.getD 0).toNat) ext) v' := by
                  intro v' h1' hv'
                  refine .os hid h1' (fun t'' sz' rows' he => ?_)
                  rw [hx] at he
                  simp only [Option.some.injEq, AObj.arr.injEq] at he
                  obtain ⟨rfl, rfl, rfl⟩ := he
                  exact ⟨g0, fun _ => hv'⟩
                unfold OsRel at h2 back
                cases hB : B id with
                | none =>
                  rw [hB] at h2 back
                  obtain ⟨h3, rfl, rfl, rfl⟩ := h2
                  have e1 : (lo.getD 0).toNat = 0 := by simp at c4 c5; omega
                  have e2 : (hi.getD (0 : Nat)).toNat = 0 := by simp at c4 c5 ⊢; omega
                  refine Does.same hr (r := .slice none 0 0) ?_ (back _ rfl ⟨by rw [e1, e2]; omega, by rw [e1], by rw [e1, e2], rfl⟩)
                  have := run_bounds (P := P) w 0 0 (Nat.le_refl _) lo hi k1 k2 c3 (by simpa using c4) (by simpa using c5)
                  rw [e1, e2] at this
                  simp only [Instr.sliceAt, Sem.run_bind, hu, Result.andThen_ok, Instr.slice, this, hs]
                  simp
                | some bc =>
                  obtain ⟨b, cap⟩ := bc
                  rw [hB] at h2 back
                  obtain ⟨h3, h4, o', rfl, h5, h6⟩ := h2
                  have hrb := run_bounds (P := P) w len (cap - off) (by omega) lo hi k1 k2 c3 c4 c5
                  refine Does.same hr (r := .slice (some (if cap - off = (lo.getD 0).toNat then ⟨b, o', none⟩ else (⟨b, o', none⟩ : Addr).add ((lo.getD 0).toNat * E.size))) ((hi.getD len).toNat - (lo.getD 0).toNat) (cap - off - (lo.getD 0).toNat)) ?_ ?_
                  · simp only [Instr.sliceAt, Sem.run_bind, hu, Result.andThen_ok, Instr.slice, hrb, hs, Sem.run_pure]
                    congr 2
                    split <;> rfl
                  · refine back _ rfl ⟨by omega, h4, (if cap - off = (lo.getD 0).toNat then o' else o' + (lo.getD 0).toNat * E.size), ?_, ?_, ?_⟩
                    · congr 1
                      · split
                        · rfl
                        · rw [add_off]
                      · omega
                    · intro hlt
                      rw [if_neg (by omega), h5 (by omega), Nat.add_mul]
                    · intro h0
                      have : (lo.getD 0).toNat = 0 := by omega
                      rw [this]
                      have := h6 (by omega)
                      split <;> omega
            · cases hb
          · cases hb
        · rename_i sz rows
          split at hb
          · rename_i hc
            obtain ⟨rfl, c3, c4, c5⟩ := hc
            simp only [Option.some.injEq] at hb
            subst hb
            cases h with
            | pv h =>
              cases h with
              | @rs _ _ A c V hcc hm hp hA hsz hcell hrel =>
                have hrb := run_bounds (P := P) w rows.length c hcc lo hi k1 k2 c3 c4 c5
                have hlen : ((rows.drop (lo.getD 0).toNat).take ((hi.getD rows.length).toNat - (lo.getD 0).toNat)).length = (hi.getD rows.length).toNat - (lo.getD 0).toNat := by simp; omega
                refine Does.same hr (r := .slice (if c = (lo.getD 0).toNat then A else A.map (·.add ((lo.getD 0).toNat * E.size))) ((hi.getD rows.length).toNat - (lo.getD 0).toNat) (c - (lo.getD 0).toNat)) ?_ ?_
                · simp only [Instr.sliceAt, Sem.run_bind, hu, Result.andThen_ok, Instr.slice, hrb, hs, Sem.run_pure]
                · have hget : ∀ i r, ((rows.drop (lo.getD 0).toNat).take ((hi.getD rows.length).toNat - (lo.getD 0).toNat))[i]? = some r → rows[(lo.getD 0).toNat + i]? = some r := by
                    intro i r h
                    rw [List.getElem?_take] at h
                    split at h
                    · rwa [List.getElem?_drop] at h
                    · cases h
                  have key : ARel w B S H (.pv (.rs E.size ((rows.drop (lo.getD 0).toNat).take ((hi.getD rows.length).toNat - (lo.getD 0).toNat)))) (.slice (if c = (lo.getD 0).toNat then A else A.map (·.add ((lo.getD 0).toNat * E.size))) ((rows.drop (lo.getD 0).toNat).take ((hi.getD rows.length).toNat - (lo.getD 0).toNat)).length (c - (lo.getD 0).toNat)) := by
                   refine .pv (.rs (fun i j => V ((lo.getD 0).toNat + i) j) (by omega) (by omega) hp ?_ (fun r h => hsz r (List.mem_of_mem_drop (List.mem_of_mem_take h))) ?_ (fun i r j p hi hj => hrel _ _ _ _ (hget i r hi) hj))
                   · intro h
                     split at h
                     · have := hA h; omega
                     · have : A = none := by cases A <;> simp_all
                       have := hA this; omega
                   · intro i r j p hi hj
                     obtain ⟨ad, e1, e2, e3⟩ := hcell _ _ _ _ (hget i r hi) hj
                     have hlt : (lo.getD 0).toNat + i < rows.length := (List.getElem?_eq_some_iff.1 (hget i r hi)).1
                     refine ⟨ad.add ((lo.getD 0).toNat * E.size), ?_, by rw [add_block]; exact e2, ?_⟩
                     · rw [if_neg (by omega), e1]; rfl
                     · rw [add_add, ← e3]; congr 2; rw [Nat.add_mul]; omega
                  rwa [hlen] at key
          · cases hb
        · cases hb
      · cases hb
    · cases hb
  · cases hb
/-! #### make -/
def aMakeSlice (P : Program) (t : TypeId) (l c : Int) : Option (TypeId × Nat × List (List AV)) :=
  match ATy.of P t with
  | some T => match T.desc with
    | .slice e => match ATy.of P e with
      | some E => if E.zero.all (·.oneCell') ∧ E.zero.length = E.size ∧ 0 < E.size ∧ 0 ≤ l ∧ l ≤ c ∧ c ≤ 281474976710656 ∧ E.bytes * c ≤ 281474976710656 then some (e, E.size, List.replicate l.toNat (aZero E)) else none
      | none => none
    | _ => none
  | none => none
theorem does_makeSlice (hr : HRel w B S H) {t : TypeId} {l c : Int} {k1 k2 : IntKind} {e sz : Nat} {rows : List (List AV)} (ho : aMakeSlice P t l c = some (e, sz, rows)) :
    Does P w B S H (Instr.makeSlice t (.int k1 l) (.int k2 c)) (.os H.length 0 rows.length rows.length) (H ++ [.arr e sz rows]) := by
  unfold aMakeSlice at ho
  split at ho
  · rename_i T hT
    obtain ⟨d, hd1, hd2⟩ := ATy.run_under hT
    have hu := run_underlying hd1 w
    split at ho
    · rename_i e' he
      rw [hd2] at he
      cases d <;> simp only [ADesc.of] at he <;> try (cases he; done)
      simp only [ADesc.slice.injEq] at he
      subst he
      rename_i e'
      split at ho
      · rename_i E hE
        split at ho
        · rename_i hc
          obtain ⟨c1, c2, c3, c4, c5, c6, c7⟩ := hc
          simp only [Option.some.injEq, Prod.mk.injEq] at ho
          obtain ⟨rfl, rfl, rfl⟩ := ho
          have hz2 : ∀ v ∈ E.zero, v.oneCell' = true := fun v hv => List.all_eq_true.1 c1 v hv
          obtain ⟨z, hz, hzc⟩ := ATy.run_zero hE w
          obtain ⟨i, d, z', hi1, hi2, hi3, hTe⟩ := ATy.info hE
          have hwl : IntKind.i64.wrap l = l := by simp [IntKind.wrap_i64]; omega
          have hwc : IntKind.i64.wrap c = c := by simp [IntKind.wrap_i64]; omega
          have hzs : z.cells.size = E.size := by rw [← c2, ← hzc]; simp
          have hrl : ∀ r ∈ List.replicate l.toNat (aZero E), r.length = E.size := by
            intro r hr; rw [(List.mem_replicate.1 hr).2]; simp [aZero, c2]
          have hvl : (List.replicate c.toNat E.zero).flatten.length = c.toNat * E.size := by
            rw [flatten_len (sz := E.size) (fun r hr => by rw [(List.mem_replicate.1 hr).2]; exact c2)]; simp
          have hv1 : ∀ v ∈ (List.replicate c.toNat E.zero).flatten, v.oneCell' = true := by
            intro v hv
            obtain ⟨r, hr, hv⟩ := List.mem_flatten.1 hv
            rw [(List.mem_replicate.1 hr).2] at hv
            exact hz2 v hv
          have htake : (List.replicate c.toNat E.zero).flatten.take ((List.replicate l.toNat (aZero E)).length * E.size) = (List.replicate l.toNat E.zero).flatten := by
            rw [List.length_replicate]
            have h1 : ∀ r ∈ List.replicate c.toNat E.zero, r.length = E.size := fun r hr => by rw [(List.mem_replicate.1 hr).2]; exact c2
            have := rows_take h1 0 l.toNat
            simp only [List.drop_zero, Nat.zero_mul] at this
            rw [← this, List.take_replicate, Nat.min_eq_left (by omega)]
          have hrel : ARelL w B S H (List.replicate l.toNat (aZero E)).flatten ((List.replicate c.toNat E.zero).flatten.take ((List.replicate l.toNat (aZero E)).length * E.size)) := by
            rw [htake]
            have : (List.replicate l.toNat (aZero E)).flatten = (List.replicate l.toNat E.zero).flatten.map AV.sc := by
              simp [aZero, List.map_flatten]
            rw [this]
            exact ARelL.scs (fun v hv => by
              obtain ⟨r, hr, hv⟩ := List.mem_flatten.1 hv
              rw [(List.mem_replicate.1 hr).2] at hv
              exact hz2 v hv)
          obtain ⟨B', g1, g2, g3⟩ := alloc_arr (vs := (List.replicate c.toNat E.zero).flatten) hr e' c.toNat c3 hrl (by simp; omega) (by simp only [maxLen]; omega) hvl hrel hv1
          refine ⟨_, _, B', ?_, g1, g2, g3⟩
          have hby : ((i.bytes : Int) * c > 2 ^ 48) = False := by
            have : (i.bytes : Int) = E.bytes := by rw [hTe]
            rw [this]; simp; omega
          have hcells : ((Array.range (c.toNat * E.size)).map ((if c.toNat * E.size = 0 then #[] else z.cells)[· % (if c.toNat * E.size = 0 then #[] else z.cells).size]!)).toList = (List.replicate c.toNat E.zero).flatten := by
            by_cases h0 : c.toNat * E.size = 0
            · have : c.toNat = 0 := by
                rcases Nat.eq_zero_or_pos c.toNat with h | h
                · exact h
                · have := Nat.mul_pos h c3; omega
              rw [this]; simp
            · simp only [if_neg h0]
              have := zero_rows z.cells c.toNat
              rw [hzs] at this
              rw [hzs, this, hzc]
          have hcl : ¬ c < 0 := by omega
          have hll : ¬ l < 0 := by omega
          have hlc : ¬ l > c := by omega
          simp only [Instr.makeSlice, Sem.run_bind, hu, Result.andThen_ok, asInt, asIntOf, Sem.run_pure, hwl, hwc, typeInfo, run_program, hi1, hby, hcl, hll, hlc, decide_false, Bool.or_false, Bool.false_eq_true, if_false, Sem.run_ite, run_askRoom, ATy.run_size hE]
          by_cases h0 : c.toNat * E.size = 0
          · simp only [h0, if_true, Result.andThen_ok] at hcells ⊢
            rw [show ((Array.range 0).map (fun x => (#[] : Array Value)[x % (#[] : Array Value).size]!)) = (List.replicate c.toNat E.zero).flatten.toArray from Array.ext' hcells]
            simp only [newRow, Sem.run_bind, run_newObj, Result.andThen_ok, Sem.run_pure, List.length_replicate]
            rfl
          · simp only [h0, if_false, hz, Result.andThen_ok] at hcells ⊢
            rw [show ((Array.range (c.toNat * E.size)).map (fun x => z.cells[x % z.cells.size]!)) = (List.replicate c.toNat E.zero).flatten.toArray from Array.ext' hcells]
            simp only [newRow, Sem.run_bind, run_newObj, Result.andThen_ok, Sem.run_pure, List.length_replicate]
            rfl
        · cases ho
      · cases ho
    · cases ho
  · cases ho
end
end Go.Proofs.YtpfjlifneibhfaaGreat.AL
namespace Go.Proofs.YtpfjlifneibhfaaGreat.AL
variable [G : GTab]
def eqStruct (P : Program) (t : TypeId) : Bool := !P.stoodInHeld t && (P.fieldsOf t).toList.all (·.name != "_")
def aEqFs (P : Program) (f : TypeId → AV → AV → Option Bool) (xs ys : List AV) : List (Nat × TypeId) → Option Bool
  | [] => some true
  | (off, ty) :: fs => match ATy.of P ty with
    | some F => match aPartV F off xs, aPartV F off ys with
      | some a, some b => match f ty a b, aEqFs P f xs ys fs with
        | some r, some r' => some (r && r')
        | _, _ => none
      | _, _ => none
    | none => none
def aEqIs (f : AV → AV → Option Bool) (E : ATy) (xs ys : List AV) : Nat → Nat → Option Bool
  | _, 0 => some true
  | k, n + 1 => match aPartV E (k * E.size) xs, aPartV E (k * E.size) ys with
    | some a, some b => match f a b, aEqIs f E xs ys (k + 1) n with
      | some r, some r' => some (r && r')
      | _, _ => none
    | _, _ => none
def aEqV (P : Program) : Nat → TypeId → AV → AV → Option Bool
  | 0, _, _, _ => none
  | d + 1, t, a, b => match ATy.of P t with
    | some T => match T.desc with
      | .int => match a, b with
        | .pv (.sc (.int k m)), .pv (.sc (.int k' n)) => if k = k' then some (m == n) else none
        | _, _ => none
      | .bool => match a, b with
        | .pv (.sc (.bool m)), .pv (.sc (.bool n)) => some (m == n)
        | _, _ => none
      | .str => match a, b with
        | .pv (.sc (.string m)), .pv (.sc (.string n)) => some (m.toList == n.toList)
        | _, _ => none
      | .struct fs => match a, b with
        | .agg xs, .agg ys => if eqStruct P t = true then aEqFs P (aEqV P d) xs ys fs else none
        | _, _ => none
      | .array n e => match a, b with
        | .agg xs, .agg ys => match ATy.of P e with
          | some E => aEqIs (aEqV P d e) E xs ys 0 n
          | none => none
        | _, _ => none
      | _ => none
    | none => none
/-- The answer of '==' on aggregates. -/
def aEq (P : Program) (t : TypeId) (a b : AV) : Option Bool :=
  match a with
  | .agg _ => match b with
    | .agg _ => if P.eqGuardType P.depth t = false then aEqV P 8 t a b else none
    | _ => none
  | _ => none
section
variable {P : Program} {w : World} {B : BMap} {S : Nat → Prop} {H : List AObj}
theorem sc_eq' {x v : Value} (h : ARel w B S H (.pv (.sc x)) v) : v = x := by cases h with | pv h => cases h with | sc => rfl
theorem eqFs_run {f : TypeId → AV → AV → Option Bool} {D : Nat} (hf : ∀ {t : TypeId} {a b : AV} {r : Bool} {va vb : Value}, f t a b = some r → ARel w B S H a va → ARel w B S H b vb → (Op.equalIn D t va vb).run P w = .ok r w)
    {xs ys : List AV} {vs us : List Value} (hx : xs.length = vs.length) (hx1 : ∀ v ∈ vs, v.oneCell' = true) (hxr : ∀ (j : Nat) (c : AV) (v : Value), xs[j]? = some c → vs[j]? = some v → ARel w B S H c v)
    (hy : ys.length = us.length) (hy1 : ∀ v ∈ us, v.oneCell' = true) (hyr : ∀ (j : Nat) (c : AV) (v : Value), ys[j]? = some c → us[j]? = some v → ARel w B S H c v) :
    ∀ (fs : List Field) {r : Bool}, (fs.all (·.name != "_")) = true → aEqFs P f xs ys (fs.map fun g => (g.offset, g.type)) = some r → (Op.eqFields D vs.toArray us.toArray fs).run P w = .ok r w
  | [], r, _, h => by
    simp only [List.map_nil, aEqFs, Option.some.injEq] at h
    subst h
    simp [Op.eqFields]
  | g :: fs, r, hn, h => by
    simp only [List.all_cons, Bool.and_eq_true, bne_iff_ne] at hn
    simp only [List.map_cons, aEqFs] at h
    split at h
    · rename_i F hF
      split at h
      · rename_i a b ha hb
        split at h
        · rename_i r1 r2 h1 h2
          simp only [Option.some.injEq] at h
          obtain ⟨va, p1, q1⟩ := part_rel hF hx hx1 hxr ha
          obtain ⟨vb, p2, q2⟩ := part_rel hF hy hy1 hyr hb
          have ih := eqFs_run hf hx hx1 hxr hy hy1 hyr fs hn.2 h2
          simp only [Op.eqFields, hn.1, ne_eq, not_false_eq_true, if_true, Sem.run_bind, p1, p2, Result.andThen_ok, hf h1 q1 q2]
          subst h
          cases r1
          · simp
          · simpa using ih
        · cases h
      · cases h
    · cases h
theorem eqIs_run {f : AV → AV → Option Bool} {D : Nat} {e : TypeId} {E : ATy} (hE : ATy.of P e = some E) (hf : ∀ {a b : AV} {r : Bool} {va vb : Value}, f a b = some r → ARel w B S H a va → ARel w B S H b vb → (Op.equalIn D e va vb).run P w = .ok r w)
    {xs ys : List AV} {vs us : List Value} (hx : xs.length = vs.length) (hx1 : ∀ v ∈ vs, v.oneCell' = true) (hxr : ∀ (j : Nat) (c : AV) (v : Value), xs[j]? = some c → vs[j]? = some v → ARel w B S H c v)
    (hy : ys.length = us.length) (hy1 : ∀ v ∈ us, v.oneCell' = true) (hyr : ∀ (j : Nat) (c : AV) (v : Value), ys[j]? = some c → us[j]? = some v → ARel w B S H c v) :
    ∀ (n k : Nat) {r : Bool}, aEqIs f E xs ys k n = some r → (Op.eqItems D e E.size vs.toArray us.toArray (List.range' k n)).run P w = .ok r w
  | 0, k, r, h => by
    simp only [aEqIs, Option.some.injEq] at h
    subst h
    simp [Op.eqItems]
  | n + 1, k, r, h => by
    simp only [aEqIs] at h
    split at h
    · rename_i a b ha hb
      split at h
      · rename_i r1 r2 h1 h2
        simp only [Option.some.injEq] at h
        obtain ⟨va, p1, q1⟩ := part_rel hE hx hx1 hxr ha
        obtain ⟨vb, p2, q2⟩ := part_rel hE hy hy1 hyr hb
        have ih := eqIs_run hE hf hx hx1 hxr hy hy1 hyr n (k + 1) h2
        simp only [List.range'_succ, Op.eqItems, Sem.run_bind, p1, p2, Result.andThen_ok, hf h1 q1 q2]
        subst h
        cases r1
        · simp
        · simpa using ih
      · cases h
    · cases h
theorem eqV_run : ∀ (d : Nat) {t : TypeId} {a b : AV} {r : Bool} {va vb : Value}, aEqV P d t a b = some r → ARel w B S H a va → ARel w B S H b vb → ∀ D, (Op.equalIn (D + d) t va vb).run P w = .ok r w
  | 0, t, a, b, r, va, vb, h, _, _ => by simp [aEqV] at h
  | d + 1, t, a, b, r, va, vb, h, ha, hb => by
    intro D
    have ih := @eqV_run d
    simp only [aEqV] at h
    split at h
    · rename_i T hT
      obtain ⟨i, dd, z, g1, hu, g3, hTe⟩ := ATy.info hT
      have hd : T.desc = .of dd := by rw [hTe]
      have hsz : T.size = i.size := by rw [hTe]
      split at h
      · rename_i hk
        split at h
        · split at h
          · rename_i k m k' n hkk
            subst hkk
            simp only [Option.some.injEq] at h
            subst h
            rw [sc_eq' ha, sc_eq' hb]
            obtain ⟨q, rfl⟩ : ∃ q, dd = .int q := by rw [hd] at hk; cases dd <;> simp [ADesc.of] at hk; exact ⟨_, rfl⟩
            exact run_equalIn_int w (D + d) t k q m n hu
          · cases h
        · cases h
      · rename_i hk
        split at h
        · rename_i m n
          simp only [Option.some.injEq] at h
          subst h
          rw [sc_eq' ha, sc_eq' hb]
          obtain rfl : dd = .bool := by rw [hd] at hk; cases dd <;> simp [ADesc.of] at hk; rfl
          exact run_equalIn_bool' w (D + d) t m n hu
        · cases h
      · rename_i hk
        split at h
        · rename_i m n
          simp only [Option.some.injEq] at h
          subst h
          rw [sc_eq' ha, sc_eq' hb]
          obtain rfl : dd = .string := by rw [hd] at hk; cases dd <;> simp [ADesc.of] at hk; rfl
          exact run_equalIn_string w (D + d) t m n hu
        · cases h
      · rename_i fs hk
        split at h
        · rename_i xs ys
          split at h
          · rename_i he
            obtain ⟨fs0, rfl⟩ : ∃ q, dd = .struct q := by rw [hd] at hk; cases dd <;> simp [ADesc.of] at hk; exact ⟨_, rfl⟩
            have hfs : P.fieldsOf t = fs0 := by simp [Program.fieldsOf, hu]
            rw [hd] at hk
            simp only [ADesc.of, ADesc.struct.injEq] at hk
            subst hk
            unfold eqStruct at he
            simp only [Bool.and_eq_true, Bool.not_eq_true'] at he
            cases ha with
            | @agg _ vs hx hx1 hxr =>
              cases hb with
              | @agg _ us hy hy1 hyr =>
                rw [show D + (d + 1) = (D + d) + 1 from rfl, run_equalIn_struct w (D + d) t _ _ (by rw [hfs]; exact hu) he.1]
                refine eqFs_run (fun h1 q1 q2 => ih h1 q1 q2 D) hx hx1 hxr hy hy1 hyr _ he.2 ?_
                rw [hfs]; exact h
          · cases h
        · cases h
      · rename_i n e hk
        split at h
        · rename_i xs ys
          split at h
          · rename_i E hE
            obtain ⟨rfl⟩ : dd = .array n e := by rw [hd] at hk; cases dd <;> simp [ADesc.of] at hk; obtain ⟨rfl, rfl⟩ := hk; rfl
            obtain ⟨iE, dE, zE, e1, e2, e3, e4⟩ := ATy.info hE
            cases ha with
            | @agg _ vs hx hx1 hxr =>
              cases hb with
              | @agg _ us hy hy1 hyr =>
                rw [show D + (d + 1) = (D + d) + 1 from rfl, run_equalIn_array w (D + d) _ _ hu e1]
                have hc : P.cellsOf e = E.size := by rw [e4]; simp [Program.cellsOf, e1]
                rw [hc, List.range_eq_range']
                exact eqIs_run hE (fun h1 q1 q2 => ih h1 q1 q2 D) hx hx1 hxr hy hy1 hyr n 0 h
          · cases h
        · cases h
      · cases h
    · cases h
theorem aEq_run {t : TypeId} {a b : AV} {r : Bool} {va vb : Value} (h : aEq P t a b = some r) (ha : ARel w B S H a va) (hb : ARel w B S H b vb) (x y : Operand) :
    (do eqGuard .eql t x y va vb; binOp .eql t va vb : Sem Value).run P w = .ok (.bool r) w ∧ (do eqGuard .neq t x y va vb; binOp .neq t va vb : Sem Value).run P w = .ok (.bool !r) w := by
  unfold aEq at h
  split at h
  · split at h
    · split at h
      · rename_i hg
        have he := eqV_run 8 h ha hb 9992
        cases ha with
        | agg =>
          cases hb with
          | agg =>
            simp only [Sem.run_bind, run_eqGuard_agg w _ t x y _ _ hg, Result.andThen_ok, run_eql_struct, run_neq_struct, show (10000 : Nat) = 9992 + 8 from rfl, he]
            exact ⟨trivial, trivial⟩
      · cases h
    · cases h
  · cases h
end
end Go.Proofs.YtpfjlifneibhfaaGreat.AL
namespace Go.Proofs.YtpfjlifneibhfaaGreat.AL
variable [G : GTab]
/-- What a key leads to. -/
def findS : List (ByteArray × Value) → ByteArray → Nat → Option (Nat × Value)
  | [], _, _ => none
  | x :: xs, s, i => if s = x.1 then some (i, x.2) else findS xs s (i + 1)
def lookS (es : List (ByteArray × Value)) (s : ByteArray) : Option Value := (findS es s 0).map (·.2)
/-- The entries with another value for a key. -/
def putS (es : List (ByteArray × Value)) (s : ByteArray) (v : Value) : List (ByteArray × Value) := match findS es s 0 with
  | some (j, _) => es.modify j fun x => (x.1, v)
  | none => es ++ [(s, v)]
def pairsOf (l : List MapEntry) : List (Value × Value) := l.map fun e => (e.key, e.val)
def pairsS (es : List (ByteArray × Value)) : List (Value × Value) := es.map fun x => (Value.string x.1, x.2)
theorem bytesBeq {a b : ByteArray} : (a == b) = true ↔ a = b := by
  obtain ⟨x⟩ := a
  obtain ⟨y⟩ := b
  constructor
  · intro h
    have e : x = y := by simpa using (show (x == y) = true from h)
    rw [e]
  · intro h
    cases h
    exact (show (x == x) = true by simp)
theorem findNow_S : ∀ (l : List MapEntry) (es : List (ByteArray × Value)) (s : ByteArray) (i : Nat), pairsOf l = pairsS es → Instr.findNow .string (.string s) l i = some (findS es s i)
  | [], [], s, i, _ => rfl
  | [], _ :: _, s, i, h => by simp [pairsOf, pairsS] at h
  | _ :: _, [], s, i, h => by simp [pairsOf, pairsS] at h
  | e :: l, x :: es, s, i, h => by
    simp only [pairsOf, pairsS, List.map_cons, List.cons.injEq, Prod.mk.injEq] at h
    obtain ⟨⟨h1, h2⟩, h3⟩ := h
    have ih := findNow_S l es s (i + 1) h3
    unfold Instr.findNow findS
    rw [h1]
    by_cases hs : s = x.1
    · subst hs
      have e1 : (x.1 == x.1) = true := by exact bytesBeq.2 rfl
      simp only [Instr.sameNow, e1, if_true, h2]
    · have e1 : (s == x.1) = false := by rw [Bool.eq_false_iff]; intro h; exact hs (bytesBeq.1 h)
      simp only [Instr.sameNow, e1, if_neg hs, ih]
theorem findS_lt : ∀ {es : List (ByteArray × Value)} {s : ByteArray} {i j : Nat} {v : Value}, findS es s i = some (j, v) → i ≤ j ∧ j < i + es.length ∧ (es[j - i]?).map (·.1) = some s
  | [], s, i, j, v, h => by cases h
  | x :: es, s, i, j, v, h => by
    unfold findS at h
    split at h
    · rename_i he
      simp only [Option.some.injEq, Prod.mk.injEq] at h
      obtain ⟨rfl, rfl⟩ := h
      simp [he]
    · obtain ⟨h1, h2, h3⟩ := findS_lt h
      refine ⟨by omega, by simp only [List.length_cons]; omega, ?_⟩
      rw [show j - i = (j - (i + 1)) + 1 by omega, List.getElem?_cons_succ]; exact h3
theorem findS_mem : ∀ {es : List (ByteArray × Value)} {s : ByteArray} {i j : Nat} {v : Value}, findS es s i = some (j, v) → ∃ x ∈ es, x.2 = v
  | [], s, i, j, v, h => by cases h
  | x :: es, s, i, j, v, h => by
    unfold findS at h
    split at h
    · simp only [Option.some.injEq, Prod.mk.injEq] at h
      exact ⟨x, by simp, h.2⟩
    · obtain ⟨y, hy, he⟩ := findS_mem h
      exact ⟨y, by simp [hy], he⟩
section
variable {P : Program} {w : World} {B : BMap} {S : Nat → Prop} {H : List AObj}
theorem run_getMap {r : Nat} {es : Array MapEntry} {clock : Nat} (hb : w.heap[r]? = some (.map es clock)) : (getObj r).run P w = .ok (.map es clock) w := by
  simp [getObj, Sem.run, hb]
theorem run_setMap {r : Nat} {es : Array MapEntry} {clock : Nat} (o : Obj) (hb : w.heap[r]? = some (.map es clock)) : (setObj r o).run P w = .ok () { w with heap := w.heap.setIfInBounds r o } := by
  simp [setObj, Sem.run, hb]
theorem run_checkKeyS {kt : TypeId} (hd : P.underlying kt = some .string) (s : ByteArray) (e : Bool) : (Instr.checkKey e 10000 kt (.string s)).run P w = .ok () w := by
  unfold Instr.checkKey
  simp only [Sem.run_bind, run_underlying hd, Result.andThen]
  rfl
theorem HRel.smap (hr : HRel w B S H) {id : Nat} {es : List (ByteArray × Value)} (h : H[id]? = some (.smap es)) {b c : Nat} (hB : B id = some (b, c)) :
    ∃ (arr : Array MapEntry) (clock : Nat), w.heap[b]? = some (.map arr clock) ∧ pairsOf arr.toList = pairsS es ∧ ∀ x ∈ es, x.2.oneCell' = true := by
  obtain ⟨b', c', arr, clock, h1, h2, h3, h4⟩ := hr.obj id _ h
  rw [h1] at hB
  simp only [Option.some.injEq, Prod.mk.injEq] at hB
  obtain ⟨rfl, rfl⟩ := hB
  exact ⟨arr, clock, h2, h3, h4⟩
def aMakeMap (P : Program) (t : TypeId) : Bool := match P.underlying t with
  | some (.map k _) => match P.underlying k with
    | some .string => true
    | _ => false
  | _ => false
theorem does_makeMap (hr : HRel w B S H) {t : TypeId} (ho : aMakeMap P t = true) : Does P w B S H (Instr.makeMap t none) (.mp H.length) (H ++ [.smap []]) := by
  have u := upd_alloc hr (.map #[] 0) (.smap []) 0
  have st := u.step hr
  refine ⟨.map (some w.heap.size), w.alloc (.map #[] 0), _, ?_, st, u.hrel hr ⟨w.heap.size, 0, #[], 0, BMap.put_same _ _ _, heap_alloc_new w _, rfl, by simp⟩, ?_⟩
  · simp only [Instr.makeMap, Sem.run_bind, run_newObj, Sem.run_pure, Result.andThen_ok]
    rfl
  · exact .mp (BMap.put_same _ _ _) (by simp) (by simp)
/-- A type's zero. -/
def aZero1 (P : Program) (t : TypeId) : Option Value := (P.info? t).bind (·.zero)
theorem run_zero1 {t : TypeId} {z : Value} (h : aZero1 P t = some z) : (zeroValue t).run P w = .ok z w := by
  unfold aZero1 at h
  rw [Option.bind_eq_some_iff] at h
  obtain ⟨i, h1, h2⟩ := h
  simp [zeroValue, typeInfo, h1, h2]
/-- What a look-up comes to. -/
def aLookup (P : Program) (H : List AObj) (t : TypeId) (ok : Bool) : AV → AV → Option AV
  | .mp id, .pv (.sc (.string s)) => match H[id]?, P.underlying t with
    | some (.smap es), some (.map k e) => match P.underlying k, aZero1 P e with
      | some .string, some z => if z.oneCell' = true then some (if ok = true then .tup [.sc ((lookS es s).getD z), .sc (.bool (lookS es s).isSome)] else .sc ((lookS es s).getD z)) else none
      | _, _ => none
    | _, _ => none
  | _, _ => none
theorem does_lookup (hr : HRel w B S H) {t : TypeId} {ok : Bool} {m k v : AV} {x y : Value} (hm : ARel w B S H m x) (hk : ARel w B S H k y) (h : aLookup P H t ok m k = some v) :
    Does P w B S H (Instr.lookup t x y ok) v H := by
  unfold aLookup at h
  split at h
  · rename_i id s
    cases hm with
    | @mp _ b c hb hid hna =>
      cases hk with | pv hk => cases hk with | sc hs =>
      split at h
      · rename_i es kt et hx ht
        split at h
        · rename_i zv hkt hT
          split at h
          · rename_i hz1
            simp only [Option.some.injEq] at h
            obtain ⟨arr, clock, h1, h2, h3⟩ := hr.smap hx hb
            have hzr := run_zero1 (w := w) hT
            have hf := findNow_S arr.toList es s 0 h2
            have hrun : (Instr.lookup t (.map (some b)) (.string s) ok).run P w = .ok (if ok = true then .tuple #[(lookS es s).getD zv, .bool (lookS es s).isSome] else (lookS es s).getD zv) w := by
              simp only [Instr.lookup, Sem.run_bind, run_underlying ht, Result.andThen_ok, run_getMap h1, Sem.run_pure, run_checkKeyS hkt, Instr.findKey, run_underlying hkt, hf]
              cases hl : findS es s 0 with
              | none => cases ok <;> simp [lookS, hl, hzr, Result.andThen]
              | some p => cases ok <;> simp [lookS, hl, Result.andThen]
            have hone : ((lookS es s).getD zv).oneCell' = true := by
              unfold lookS
              cases hl : findS es s 0 with
              | none => exact hz1
              | some p =>
                obtain ⟨j, u⟩ := p
                obtain ⟨x, hx, rfl⟩ := findS_mem hl
                exact h3 x hx
            refine ⟨_, w, B, hrun, Step.refl _ _ _ _, hr, ?_⟩
            subst h
            cases ok with
            | false => exact .sc hone
            | true =>
              have := ARel.tup (w := w) (B := B) (S := S) (H := H) (cs := [.sc ((lookS es s).getD zv), .sc (.bool (lookS es s).isSome)]) (vs := [(lookS es s).getD zv, .bool (lookS es s).isSome]) rfl
                (ARelL.cons (.sc hone) (ARelL.cons (.sc rfl) ARelL.nil)).2
              exact this
          · cases h
        · cases h
      · cases h
  · cases h
/-- What an update comes to. -/
def aUpdate (P : Program) (H : List AObj) (t : TypeId) : AV → AV → AV → Option (List AObj)
  | .mp id, .pv (.sc (.string s)), .pv (.sc v) => match H[id]?, P.underlying t with
    | some (.smap es), some (.map k e) => match P.underlying k with
      | some .string => if v.oneCell' = true then some (H.set id (.smap (putS es s v))) else none
      | _ => none
    | _, _ => none
  | _, _, _ => none
theorem findS_at {es : List (ByteArray × Value)} {s : ByteArray} {j : Nat} {v : Value} (h : findS es s 0 = some (j, v)) : j < es.length ∧ (es[j]?).map (·.1) = some s := by
  obtain ⟨h1, h2, h3⟩ := findS_lt h
  exact ⟨by omega, by simpa using h3⟩
theorem upd_map (hr : HRel w B S H) {id b c : Nat} {es es' : List (ByteArray × Value)} (hx : H[id]? = some (.smap es)) (hB : B id = some (b, c)) (o : Obj) :
    Upd w B H { w with heap := w.heap.setIfInBounds b o } B (H.set id (.smap es')) id (.smap es') b where
  os := rfl
  tape := rfl
  output := rfl
  size := by simp
  heap := fun k hk hne _ => by simp [Ne.symm hne]
  blk := .inl ⟨c, hB, (List.getElem?_eq_some_iff.1 hx).1, by rw [hx]; simp⟩
  bOld := fun _ _ => rfl
  bNew := fun b' d h => by rw [hB] at h; simp at h; omega
  hOld := fun i h => by rw [List.getElem?_set]; rw [if_neg (by omega)]
  hNew := by simp [(List.getElem?_eq_some_iff.1 hx).1]
  len := by simp
  arr := fun t sz rows h => by rw [hx] at h; cases h
  cel := fun _ h => ⟨rfl, fun t sz rows e => by cases e⟩
theorem does_update (hr : HRel w B S H) {t : TypeId} {m k v : AV} {x y z : Value} {H' : List AObj} (hm : ARel w B S H m x) (hk : ARel w B S H k y) (hv : ARel w B S H v z) (h : aUpdate P H t m k v = some H') :
    DoesU P w B S H (Instr.mapUpdate t x y z) H' := by
  unfold aUpdate at h
  split at h
  · rename_i id s u
    cases hm with
    | @mp _ b c hb hid hna =>
      cases hk with | pv hk => cases hk with | sc hs =>
      have hz := sc_eq' hv
      subst hz
      split at h
      · rename_i es kt et hx ht
        split at h
        · rename_i hkt
          split at h
          · rename_i hu
            simp only [Option.some.injEq] at h
            subst h
            obtain ⟨arr, clock, h1, h2, h3⟩ := hr.smap hx hb
            have hlt := (Array.getElem?_eq_some_iff.1 h1).1
            have hf := findNow_S arr.toList es s 0 h2
            have hlen : arr.toList.length = es.length := by have := congrArg List.length h2; simpa [pairsOf, pairsS] using this
            cases hl : findS es s 0 with
            | none =>
              have hrun : (Instr.mapUpdate t (.map (some b)) (.string s) z).run P w = .ok () { w with heap := w.heap.setIfInBounds b (.map (arr.push { key := .string s, val := z, born := clock }) (clock + 1)) } := by
                simp only [Instr.mapUpdate, Sem.run_bind, run_underlying ht, Result.andThen_ok, run_getMap h1, run_checkKeyS hkt, Instr.findKey, run_underlying hkt, hf, hl, Sem.run_pure, run_setMap _ h1]
              have up := upd_map hr (es' := putS es s z) hx hb (.map (arr.push { key := .string s, val := z, born := clock }) (clock + 1))
              refine ⟨_, B, hrun, up.step hr, up.hrel hr ⟨b, c, arr.push { key := .string s, val := z, born := clock }, clock + 1, hb, by simp [hlt], ?_, ?_⟩⟩
              · simp only [putS, hl, Array.toList_push, List.map_append, List.map_cons, List.map_nil]
                unfold pairsOf pairsS at h2
                rw [h2]
              · intro x hx'
                simp only [putS, hl, List.mem_append, List.mem_singleton] at hx'
                rcases hx' with hx' | rfl
                · exact h3 x hx'
                · exact hu
            | some p =>
              obtain ⟨j, v0⟩ := p
              obtain ⟨hj, hjs⟩ := findS_at hl
              have hjl : j < arr.size := by have : arr.toList.length = arr.size := rfl; omega
              have hkey : ((arr[j]?).map (·.key)).getD (.string s) = .string s := by
                have e := congrArg (·[j]?) h2
                simp only [pairsOf, pairsS, List.getElem?_map] at e
                rw [Option.map_eq_some_iff] at hjs
                obtain ⟨q, hq, rfl⟩ := hjs
                rw [hq] at e
                simp only [Option.map_some, Option.map_eq_some_iff, Prod.mk.injEq] at e
                obtain ⟨a, ha, ha1, _⟩ := e
                rw [Array.getElem?_toList] at ha
                rw [ha]
                simp [ha1]
              have hstay : (Instr.keyThatStays (.string s) (.string s)).run P w = .ok (.string s) w := by
                unfold Instr.keyThatStays
                have : Instr.sameBits 10000 (.string s) (.string s) = true := by
                  unfold Instr.sameBits; exact bytesBeq.2 rfl
                rw [if_pos this]; rfl
              have hrun : (Instr.mapUpdate t (.map (some b)) (.string s) z).run P w = .ok () { w with heap := w.heap.setIfInBounds b (.map (arr.modify j fun e => { e with key := .string s, val := z }) clock) } := by
                simp only [Instr.mapUpdate, Sem.run_bind, run_underlying ht, Result.andThen_ok, run_getMap h1, run_checkKeyS hkt, Instr.findKey, run_underlying hkt, hf, hl, Sem.run_pure, hkey, hstay, run_setMap _ h1]
              have up := upd_map hr (es' := putS es s z) hx hb (.map (arr.modify j fun e => { e with key := .string s, val := z }) clock)
              refine ⟨_, B, hrun, up.step hr, up.hrel hr ⟨b, c, arr.modify j fun e => { e with key := .string s, val := z }, clock, hb, by simp [hlt], ?_, ?_⟩⟩
              · simp only [putS, hl]
                refine List.ext_getElem? (fun n => ?_)
                have e := congrArg (·[n]?) h2
                simp only [pairsOf, pairsS, List.getElem?_map] at e
                simp only [List.getElem?_map, Array.toList_modify, List.getElem?_modify]
                by_cases hn : j = n
                · subst hn
                  rw [Option.map_eq_some_iff] at hjs
                  obtain ⟨q, hq, rfl⟩ := hjs
                  rw [hq] at e ⊢
                  simp only [Option.map_some, Option.map_eq_some_iff, Prod.mk.injEq] at e
                  obtain ⟨a, ha, ha1, _⟩ := e
                  rw [ha]
                  simp
                · simp only [if_neg hn, Option.map_id']
                  simpa using e
              · intro x hx'
                simp only [putS, hl] at hx'
                obtain ⟨n, hn⟩ := List.getElem?_of_mem hx'
                rw [List.getElem?_modify] at hn
                by_cases hjn : j = n
                · simp only [if_pos hjn, Option.map_eq_map, Option.map_eq_some_iff] at hn
                  obtain ⟨a, ha, rfl⟩ := hn
                  exact hu
                · simp only [if_neg hjn, Option.map_eq_map, Option.map_id'] at hn
                  have : x ∈ es := List.mem_of_getElem? (by simpa using hn)
                  exact h3 x this
          · cases h
        · cases h
      · cases h
  · cases h
end
end Go.Proofs.YtpfjlifneibhfaaGreat.AL
namespace Go.Proofs.YtpfjlifneibhfaaGreat.AL
variable [G : GTab]
open Go.Lib
/-- A string's bytes. -/
def bytesZ (s : ByteArray) : List Int := s.data.toList.map fun b => (b.toNat : Int)
theorem bytesZ_len (s : ByteArray) : (bytesZ s).length = s.size := by
  unfold bytesZ; rw [List.length_map, Array.length_toList]; rfl
theorem bytesZ_get {s : ByteArray} {i : Nat} (h : i < s.size) : (bytesZ s)[i]? = some ((s.data.toList.getD i 0).toNat : Int) := by
  have hl : i < s.data.toList.length := by rw [Array.length_toList]; exact h
  unfold bytesZ
  rw [List.getElem?_map, List.getElem?_eq_getElem hl, List.getD_eq_getElem?_getD, List.getElem?_eq_getElem hl]
  rfl
abbrev rowsZ (l : List Int) : List (List PV) := l.map fun n => [.sc (.int .u8 n)]
section
variable {P : Program} {w : World} {B : BMap} {S : Nat → Prop} {H : List AObj}
theorem comes_bytes (hr : HRel w B S H) {src dst e : TypeId} {u : TypeDesc} (hs : P.underlying src = some u) (hd : P.underlying dst = some (.slice e)) (he : P.underlying e = some (.int .u8)) (s : ByteArray) (hl : s.size ≤ maxLen) :
    ∃ r w' S', (convert src dst (.string s)).run P w = .ok r w' ∧ Step w B S H w' B S' H ∧ HRel w' B S' H ∧ ARel w' B S' H (.pv (.rs 1 (rowsZ (bytesZ s)))) r := by
  have hold : ∀ b, b < w.heap.size → (bytesWorld w e s).heap[b]? = w.heap[b]? := fun b hb => bytesWorld_at_old w e s b hb
  have st : Step w B S H (bytesWorld w e s) B (fun b => S b ∨ b = w.heap.size) H := by
    refine ⟨rfl, rfl, rfl, by rw [bytesWorld_size]; omega, fun b h => .inl h, fun b hb => hold b (hr.bound b hb), Nat.le_refl _, fun id t sz rows h => .inr ⟨rows, h, Nat.le_refl _, fun _ => rfl⟩, fun id _ h => ⟨rfl, h⟩⟩
  refine ⟨_, _, _, run_convert_string_bytes w src dst e s hs hd he, st, ⟨?_, hr.inj, ?_, ?_, hr.glob.mono (fun _ h => .inl h) (fun b hb => hold b (hr.bound b hb))⟩, ?_⟩
  · intro id o ho
    have hid := (List.getElem?_eq_some_iff.1 ho).1
    by_cases hdd : o = .dead
    · subst hdd; trivial
    · exact (hr.obj id o ho).keep st rfl (fun b c hB => hold b (hr.lt hid (by rw [ho]; simpa using hdd) hB))
  · intro id b c hid hdd hB hS
    rcases hS with hS | hS
    · exact hr.sep id b c hid hdd hB hS
    · have := hr.lt hid hdd hB; omega
  · intro b hb
    rw [bytesWorld_size]
    rcases hb with hb | hb
    · have := hr.bound b hb; omega
    · omega
  · have hlen : (rowsZ (bytesZ s)).length = s.size := by rw [List.length_map, bytesZ_len]
    have : PRel (bytesWorld w e s) (fun b => S b ∨ b = w.heap.size) (.rs 1 (rowsZ (bytesZ s))) (.slice (some ⟨w.heap.size, 0, none⟩) (rowsZ (bytesZ s)).length (grownCap w s.size 0 e)) := by
      refine .rs (fun i j => .int .u8 ((s.data.toList.getD i 0).toNat : Int)) (by rw [hlen]; exact grownCap_ge _ _ _ _) (grownCap_le_maxLen _ _ _ _ hl) (by decide) (fun h => by cases h) ?_ ?_ ?_
      · intro r hr'
        obtain ⟨n, _, rfl⟩ := List.mem_map.1 hr'
        rfl
      · intro i r j p hi hj
        rw [List.getElem?_map, Option.map_eq_some_iff] at hi
        obtain ⟨n, hn, rfl⟩ := hi
        have hlt : i < s.size := by rw [← bytesZ_len]; exact (List.getElem?_eq_some_iff.1 hn).1
        have hj0 : j = 0 := by have := (List.getElem?_eq_some_iff.1 hj).1; simp at this; omega
        subst hj0
        refine ⟨⟨w.heap.size, 0, none⟩, rfl, .inr rfl, ?_⟩
        rw [add_off, Nat.zero_add, Nat.mul_one, Nat.add_zero]
        exact bytesWorld_cell w e s i hlt
      · intro i r j p hi hj
        rw [List.getElem?_map, Option.map_eq_some_iff] at hi
        obtain ⟨n, hn, rfl⟩ := hi
        have hlt : i < s.size := by rw [← bytesZ_len]; exact (List.getElem?_eq_some_iff.1 hn).1
        have hj0 : j = 0 := by have := (List.getElem?_eq_some_iff.1 hj).1; simp at this; omega
        subst hj0
        simp only [List.getElem?_cons_zero, Option.some.injEq] at hj
        subst hj
        rw [bytesZ_get hlt] at hn
        obtain rfl := Option.some.inj hn
        exact .sc rfl
    rw [hlen] at this
    exact .pv this
/-- A string's byte. -/
def aByte (P : Program) (t : TypeId) (s : ByteArray) (n : Int) : Option AV := match P.underlying t with
  | some .string => if 0 ≤ n ∧ n < s.size then some (.sc (.int .u8 ((bytesZ s).getD n.toNat 0))) else none
  | _ => none
theorem run_byte {t : TypeId} {s : ByteArray} {n : Int} {k : IntKind} {v : AV} (h : aByte P t s n = some v) :
    ∃ r, (Instr.index t (.string s) (.int k n)).run P w = .ok r w ∧ ARel w B S H v r := by
  unfold aByte at h
  split at h
  · rename_i ht
    split at h
    · rename_i hn
      simp only [Option.some.injEq] at h
      subst h
      have hlt : n.toNat < s.size := by omega
      have e1 : (bytesZ s).getD n.toNat 0 = ((s.data.toList.getD n.toNat 0).toNat : Int) := by
        rw [List.getD_eq_getElem?_getD, bytesZ_get hlt]; rfl
      have e2 : s[n.toNat]? = some (s.data.toList.getD n.toNat 0) := by
        have hl : n.toNat < s.data.toList.length := by rw [Array.length_toList]; exact hlt
        rw [List.getD_eq_getElem?_getD, List.getElem?_eq_getElem hl]
        rw [getElem?_pos s n.toNat hlt]
        simp only [Option.getD_some, Option.some.injEq, Array.getElem_toList]
        rfl
      refine ⟨.int .u8 ((bytesZ s).getD n.toNat 0), ?_, .sc rfl⟩
      rw [e1]
      simp only [Instr.index, Sem.run_bind, asIntOf, Sem.run_pure, Result.andThen_ok, run_underlying ht, if_pos hn.1, e2]
    · cases h
  · cases h
end
end Go.Proofs.YtpfjlifneibhfaaGreat.AL
namespace Go.Proofs.YtpfjlifneibhfaaGreat.AL
variable [G : GTab]
/-- What a key leads to. -/
def findI : List (Int × Value) → Int → Nat → Option (Nat × Value)
  | [], _, _ => none
  | x :: xs, s, i => if s = x.1 then some (i, x.2) else findI xs s (i + 1)
def lookI (es : List (Int × Value)) (s : Int) : Option Value := (findI es s 0).map (·.2)
/-- The entries with another value for a key. -/
def putI (es : List (Int × Value)) (s : Int) (v : Value) : List (Int × Value) := match findI es s 0 with
  | some (j, _) => es.modify j fun x => (x.1, v)
  | none => es ++ [(s, v)]
def pairsI (es : List (Int × Value)) : List (Value × Value) := es.map fun x => (Value.int .i64 x.1, x.2)
theorem findNow_I : ∀ (l : List MapEntry) (es : List (Int × Value)) (s : Int) (i : Nat), pairsOf l = pairsI es → Instr.findNow (.int .i64) (.int .i64 s) l i = some (findI es s i)
  | [], [], s, i, _ => rfl
  | [], _ :: _, s, i, h => by simp [pairsOf, pairsI] at h
  | _ :: _, [], s, i, h => by simp [pairsOf, pairsI] at h
  | e :: l, x :: es, s, i, h => by
    simp only [pairsOf, pairsI, List.map_cons, List.cons.injEq, Prod.mk.injEq] at h
    obtain ⟨⟨h1, h2⟩, h3⟩ := h
    have ih := findNow_I l es s (i + 1) h3
    unfold Instr.findNow findI
    rw [h1]
    by_cases hs : s = x.1
    · subst hs
      have e1 : (x.1 == x.1) = true := by simp
      simp only [Instr.sameNow, if_true, e1, h2]
    · have e1 : (s == x.1) = false := by simpa using hs
      simp only [Instr.sameNow, if_true, e1, if_neg hs, ih]
theorem findI_lt : ∀ {es : List (Int × Value)} {s : Int} {i j : Nat} {v : Value}, findI es s i = some (j, v) → i ≤ j ∧ j < i + es.length ∧ (es[j - i]?).map (·.1) = some s
  | [], s, i, j, v, h => by cases h
  | x :: es, s, i, j, v, h => by
    unfold findI at h
    split at h
    · rename_i he
      simp only [Option.some.injEq, Prod.mk.injEq] at h
      obtain ⟨rfl, rfl⟩ := h
      simp [he]
    · obtain ⟨h1, h2, h3⟩ := findI_lt h
      refine ⟨by omega, by simp only [List.length_cons]; omega, ?_⟩
      rw [show j - i = (j - (i + 1)) + 1 by omega, List.getElem?_cons_succ]; exact h3
theorem findI_mem : ∀ {es : List (Int × Value)} {s : Int} {i j : Nat} {v : Value}, findI es s i = some (j, v) → ∃ x ∈ es, x.2 = v
  | [], s, i, j, v, h => by cases h
  | x :: es, s, i, j, v, h => by
    unfold findI at h
    split at h
    · simp only [Option.some.injEq, Prod.mk.injEq] at h
      exact ⟨x, by simp, h.2⟩
    · obtain ⟨y, hy, he⟩ := findI_mem h
      exact ⟨y, by simp [hy], he⟩
section
variable {P : Program} {w : World} {B : BMap} {S : Nat → Prop} {H : List AObj}
theorem run_checkKeyI {kt : TypeId} (hd : P.underlying kt = some (.int .i64)) (s : Int) (e : Bool) : (Instr.checkKey e 10000 kt (.int .i64 s)).run P w = .ok () w := by
  unfold Instr.checkKey
  simp only [Sem.run_bind, run_underlying hd, Result.andThen]
  rfl
theorem HRel.imap (hr : HRel w B S H) {id : Nat} {es : List (Int × Value)} (h : H[id]? = some (.imap es)) {b c : Nat} (hB : B id = some (b, c)) :
    ∃ (arr : Array MapEntry) (clock : Nat), w.heap[b]? = some (.map arr clock) ∧ pairsOf arr.toList = pairsI es ∧ ∀ x ∈ es, x.2.oneCell' = true := by
  obtain ⟨b', c', arr, clock, h1, h2, h3, h4⟩ := hr.obj id _ h
  rw [h1] at hB
  simp only [Option.some.injEq, Prod.mk.injEq] at hB
  obtain ⟨rfl, rfl⟩ := hB
  exact ⟨arr, clock, h2, h3, h4⟩
/-- A value out of a map. -/
def AV.ofMap : Value → AV
  | .func f ⟨[]⟩ ⟨[]⟩ => .fn f [] []
  | v => .sc v
theorem ofMap_fn (f : Fn) : AV.ofMap (.func f #[] #[]) = .fn f [] [] := rfl
theorem ofMap_rel {v : Value} (h : v.oneCell' = true) : ARel w B S H (AV.ofMap v) v := by
  unfold AV.ofMap
  split
  · exact ARel.fn (fs := []) (cs := []) rfl rfl (by simp) (by simp)
  · exact .sc h
/-- A value for a map. -/
def AV.toMap : AV → Option Value
  | .pv (.sc v) => some v
  | .fn f [] [] => some (.func f #[] #[])
  | _ => none
theorem toMap_rel {a : AV} {z v : Value} (h : ARel w B S H a z) (e : a.toMap = some v) : z = v ∧ (v.oneCell' = true → ARel w B S H (.pv (.sc v)) z) := by
  unfold AV.toMap at e
  split at e
  · simp only [Option.some.injEq] at e
    subst e
    have := sc_eq' h
    subst this
    exact ⟨rfl, fun _ => h⟩
  · simp only [Option.some.injEq] at e
    subst e
    cases h with
    | @fn _ _ _ fs cs h1 h2 _ _ =>
      have e1 : fs = [] := List.eq_nil_of_length_eq_zero h1.symm
      have e2 : cs = [] := List.eq_nil_of_length_eq_zero h2.symm
      subst e1; subst e2
      exact ⟨rfl, fun h => .sc h⟩
  · cases e
/-- What a look-up comes to. -/
def aLookupI (P : Program) (H : List AObj) (t : TypeId) (ok : Bool) : AV → AV → Option AV
  | .mp id, .pv (.sc (.int .i64 s)) => match H[id]?, P.underlying t with
    | some (.imap es), some (.map k e) => match P.underlying k, aZero1 P e with
      | some (.int .i64), some z => if z.oneCell' = true then some (if ok = true then .tup [AV.ofMap ((lookI es s).getD z), .sc (.bool (lookI es s).isSome)] else AV.ofMap ((lookI es s).getD z)) else none
      | _, _ => none
    | _, _ => none
  | _, _ => none
theorem does_lookupI (hr : HRel w B S H) {t : TypeId} {ok : Bool} {m k v : AV} {x y : Value} (hm : ARel w B S H m x) (hk : ARel w B S H k y) (h : aLookupI P H t ok m k = some v) :
    Does P w B S H (Instr.lookup t x y ok) v H := by
  unfold aLookupI at h
  split at h
  · rename_i id s
    cases hm with
    | @mp _ b c hb hid hna =>
      cases hk with | pv hk => cases hk with | sc hs =>
      split at h
      · rename_i es kt et hx ht
        split at h
        · rename_i zv hkt hT
          split at h
          · rename_i hz1
            simp only [Option.some.injEq] at h
            obtain ⟨arr, clock, h1, h2, h3⟩ := hr.imap hx hb
            have hzr := run_zero1 (w := w) hT
            have hf := findNow_I arr.toList es s 0 h2
            have hrun : (Instr.lookup t (.map (some b)) (.int .i64 s) ok).run P w = .ok (if ok = true then .tuple #[(lookI es s).getD zv, .bool (lookI es s).isSome] else (lookI es s).getD zv) w := by
              simp only [Instr.lookup, Sem.run_bind, run_underlying ht, Result.andThen_ok, run_getMap h1, Sem.run_pure, run_checkKeyI hkt, Instr.findKey, run_underlying hkt, hf]
              cases hl : findI es s 0 with
              | none => cases ok <;> simp [lookI, hl, hzr, Result.andThen]
              | some p => cases ok <;> simp [lookI, hl, Result.andThen]
            have hone : ((lookI es s).getD zv).oneCell' = true := by
              unfold lookI
              cases hl : findI es s 0 with
              | none => exact hz1
              | some p =>
                obtain ⟨j, u⟩ := p
                obtain ⟨x, hx, rfl⟩ := findI_mem hl
                exact h3 x hx
            refine ⟨_, w, B, hrun, Step.refl _ _ _ _, hr, ?_⟩
            subst h
            cases ok with
            | false => exact ofMap_rel hone
            | true =>
              have := ARel.tup (w := w) (B := B) (S := S) (H := H) (cs := [AV.ofMap ((lookI es s).getD zv), .sc (.bool (lookI es s).isSome)]) (vs := [(lookI es s).getD zv, .bool (lookI es s).isSome]) rfl
                (ARelL.cons (ofMap_rel hone) (ARelL.cons (.sc rfl) ARelL.nil)).2
              exact this
          · cases h
        · cases h
      · cases h
  · cases h
/-- What an update comes to. -/
def aUpdateI0 (P : Program) (H : List AObj) (t : TypeId) : AV → AV → AV → Option (List AObj)
  | .mp id, .pv (.sc (.int .i64 s)), .pv (.sc v) => match H[id]?, P.underlying t with
    | some (.imap es), some (.map k e) => match P.underlying k with
      | some (.int .i64) => if v.oneCell' = true then some (H.set id (.imap (putI es s v))) else none
      | _ => none
    | _, _ => none
  | _, _, _ => none
theorem findI_at {es : List (Int × Value)} {s : Int} {j : Nat} {v : Value} (h : findI es s 0 = some (j, v)) : j < es.length ∧ (es[j]?).map (·.1) = some s := by
  obtain ⟨h1, h2, h3⟩ := findI_lt h
  exact ⟨by omega, by simpa using h3⟩
theorem upd_mapI (hr : HRel w B S H) {id b c : Nat} {es es' : List (Int × Value)} (hx : H[id]? = some (.imap es)) (hB : B id = some (b, c)) (o : Obj) :
    Upd w B H { w with heap := w.heap.setIfInBounds b o } B (H.set id (.imap es')) id (.imap es') b where
  os := rfl
  tape := rfl
  output := rfl
  size := by simp
  heap := fun k hk hne _ => by simp [Ne.symm hne]
  blk := .inl ⟨c, hB, (List.getElem?_eq_some_iff.1 hx).1, by rw [hx]; simp⟩
  bOld := fun _ _ => rfl
  bNew := fun b' d h => by rw [hB] at h; simp at h; omega
  hOld := fun i h => by rw [List.getElem?_set]; rw [if_neg (by omega)]
  hNew := by simp [(List.getElem?_eq_some_iff.1 hx).1]
  len := by simp
  arr := fun t sz rows h => by rw [hx] at h; cases h
  cel := fun _ h => ⟨rfl, fun t sz rows e => by cases e⟩
theorem does_updateI0 (hr : HRel w B S H) {t : TypeId} {m k v : AV} {x y z : Value} {H' : List AObj} (hm : ARel w B S H m x) (hk : ARel w B S H k y) (hv : ARel w B S H v z) (h : aUpdateI0 P H t m k v = some H') :
    DoesU P w B S H (Instr.mapUpdate t x y z) H' := by
  unfold aUpdateI0 at h
  split at h
  · rename_i id s u
    cases hm with
    | @mp _ b c hb hid hna =>
      cases hk with | pv hk => cases hk with | sc hs =>
      have hz := sc_eq' hv
      subst hz
      split at h
      · rename_i es kt et hx ht
        split at h
        · rename_i hkt
          split at h
          · rename_i hu
            simp only [Option.some.injEq] at h
            subst h
            obtain ⟨arr, clock, h1, h2, h3⟩ := hr.imap hx hb
            have hlt := (Array.getElem?_eq_some_iff.1 h1).1
            have hf := findNow_I arr.toList es s 0 h2
            have hlen : arr.toList.length = es.length := by have := congrArg List.length h2; simpa [pairsOf, pairsI] using this
            cases hl : findI es s 0 with
            | none =>
              have hrun : (Instr.mapUpdate t (.map (some b)) (.int .i64 s) z).run P w = .ok () { w with heap := w.heap.setIfInBounds b (.map (arr.push { key := (.int .i64 s), val := z, born := clock }) (clock + 1)) } := by
                simp only [Instr.mapUpdate, Sem.run_bind, run_underlying ht, Result.andThen_ok, run_getMap h1, run_checkKeyI hkt, Instr.findKey, run_underlying hkt, hf, hl, Sem.run_pure, run_setMap _ h1]
              have up := upd_mapI hr (es' := putI es s z) hx hb (.map (arr.push { key := (.int .i64 s), val := z, born := clock }) (clock + 1))
              refine ⟨_, B, hrun, up.step hr, up.hrel hr ⟨b, c, arr.push { key := (.int .i64 s), val := z, born := clock }, clock + 1, hb, by simp [hlt], ?_, ?_⟩⟩
              · simp only [putI, hl, Array.toList_push, List.map_append, List.map_cons, List.map_nil]
                unfold pairsOf pairsI at h2
                rw [h2]
              · intro x hx'
                simp only [putI, hl, List.mem_append, List.mem_singleton] at hx'
                rcases hx' with hx' | rfl
                · exact h3 x hx'
                · exact hu
            | some p =>
              obtain ⟨j, v0⟩ := p
              obtain ⟨hj, hjs⟩ := findI_at hl
              have hjl : j < arr.size := by have : arr.toList.length = arr.size := rfl; omega
              have hkey : ((arr[j]?).map (·.key)).getD (.int .i64 s) = (.int .i64 s) := by
                have e := congrArg (·[j]?) h2
                simp only [pairsOf, pairsI, List.getElem?_map] at e
                rw [Option.map_eq_some_iff] at hjs
                obtain ⟨q, hq, rfl⟩ := hjs
                rw [hq] at e
                simp only [Option.map_some, Option.map_eq_some_iff, Prod.mk.injEq] at e
                obtain ⟨a, ha, ha1, _⟩ := e
                rw [Array.getElem?_toList] at ha
                rw [ha]
                simp [ha1]
              have hstay : (Instr.keyThatStays (.int .i64 s) (.int .i64 s)).run P w = .ok (.int .i64 s) w := by
                unfold Instr.keyThatStays
                have : Instr.sameBits 10000 (.int .i64 s) (.int .i64 s) = true := by
                  unfold Instr.sameBits; simp
                rw [if_pos this]; rfl
              have hrun : (Instr.mapUpdate t (.map (some b)) (.int .i64 s) z).run P w = .ok () { w with heap := w.heap.setIfInBounds b (.map (arr.modify j fun e => { e with key := (.int .i64 s), val := z }) clock) } := by
                simp only [Instr.mapUpdate, Sem.run_bind, run_underlying ht, Result.andThen_ok, run_getMap h1, run_checkKeyI hkt, Instr.findKey, run_underlying hkt, hf, hl, Sem.run_pure, hkey, hstay, run_setMap _ h1]
              have up := upd_mapI hr (es' := putI es s z) hx hb (.map (arr.modify j fun e => { e with key := (.int .i64 s), val := z }) clock)
              refine ⟨_, B, hrun, up.step hr, up.hrel hr ⟨b, c, arr.modify j fun e => { e with key := (.int .i64 s), val := z }, clock, hb, by simp [hlt], ?_, ?_⟩⟩
              · simp only [putI, hl]
                refine List.ext_getElem? (fun n => ?_)
                have e := congrArg (·[n]?) h2
                simp only [pairsOf, pairsI, List.getElem?_map] at e
                simp only [List.getElem?_map, Array.toList_modify, List.getElem?_modify]
                by_cases hn : j = n
                · subst hn
                  rw [Option.map_eq_some_iff] at hjs
                  obtain ⟨q, hq, rfl⟩ := hjs
                  rw [hq] at e ⊢
                  simp only [Option.map_some, Option.map_eq_some_iff, Prod.mk.injEq] at e
                  obtain ⟨a, ha, ha1, _⟩ := e
                  rw [ha]
                  simp
                · simp only [if_neg hn, Option.map_id']
                  simpa using e
              · intro x hx'
                simp only [putI, hl] at hx'
                obtain ⟨n, hn⟩ := List.getElem?_of_mem hx'
                rw [List.getElem?_modify] at hn
                by_cases hjn : j = n
                · simp only [if_pos hjn, Option.map_eq_map, Option.map_eq_some_iff] at hn
                  obtain ⟨a, ha, rfl⟩ := hn
                  exact hu
                · simp only [if_neg hjn, Option.map_eq_map, Option.map_id'] at hn
                  have : x ∈ es := List.mem_of_getElem? (by simpa using hn)
                  exact h3 x this
          · cases h
        · cases h
      · cases h
  · cases h
def aUpdateI (P : Program) (H : List AObj) (t : TypeId) (m k a : AV) : Option (List AObj) := match a.toMap with
  | some v => aUpdateI0 P H t m k (.pv (.sc v))
  | none => none
theorem does_updateI (hr : HRel w B S H) {t : TypeId} {m k v : AV} {x y z : Value} {H' : List AObj} (hm : ARel w B S H m x) (hk : ARel w B S H k y) (hv : ARel w B S H v z) (h : aUpdateI P H t m k v = some H') :
    DoesU P w B S H (Instr.mapUpdate t x y z) H' := by
  unfold aUpdateI at h
  split at h
  · rename_i u hu
    obtain ⟨h1, h2⟩ := toMap_rel hv hu
    subst h1
    exact does_updateI0 hr hm hk (h2 (by
      unfold AV.toMap at hu
      split at hu
      · simp only [Option.some.injEq] at hu
        subst hu
        cases hv with | pv hv => cases hv with | sc hv => exact hv
      · simp only [Option.some.injEq] at hu
        subst hu; rfl
      · cases hu)) h
  · cases h
def aMakeMapI (P : Program) (t : TypeId) : Bool := match P.underlying t with
  | some (.map k _) => match P.underlying k with
    | some (.int .i64) => true
    | _ => false
  | _ => false
theorem does_makeMapI (hr : HRel w B S H) {t : TypeId} (ho : aMakeMapI P t = true) : Does P w B S H (Instr.makeMap t none) (.mp H.length) (H ++ [.imap []]) := by
  have u := upd_alloc hr (.map #[] 0) (.imap []) 0
  have st := u.step hr
  refine ⟨.map (some w.heap.size), w.alloc (.map #[] 0), _, ?_, st, u.hrel hr ⟨w.heap.size, 0, #[], 0, BMap.put_same _ _ _, heap_alloc_new w _, rfl, by simp⟩, ?_⟩
  · simp only [Instr.makeMap, Sem.run_bind, run_newObj, Sem.run_pure, Result.andThen_ok]
    rfl
  · exact .mp (BMap.put_same _ _ _) (by simp) (by simp)
end
end Go.Proofs.YtpfjlifneibhfaaGreat.AL
namespace Go.Proofs.YtpfjlifneibhfaaGreat.AL
variable [G : GTab]
theorem flat_take {sz : Nat} : ∀ (rows : List (List AV)) (n : Nat), (∀ r ∈ rows, r.length = sz) → (rows.take n).flatten = rows.flatten.take (n * sz)
  | [], n, _ => by simp
  | r :: rows, 0, _ => by simp
  | r :: rows, n + 1, h => by
    have hr := h r (by simp)
    have hs : (n + 1) * sz = r.length + n * sz := by rw [hr, Nat.add_mul, Nat.one_mul, Nat.add_comm]
    rw [List.take_succ_cons, List.flatten_cons, List.flatten_cons, flat_take rows n (fun r hr => h r (by simp [hr])), hs, List.take_length_add_append]
theorem flat_drop {sz : Nat} : ∀ (rows : List (List AV)) (n : Nat), (∀ r ∈ rows, r.length = sz) → (rows.drop n).flatten = rows.flatten.drop (n * sz)
  | [], n, _ => by simp
  | r :: rows, 0, _ => by simp
  | r :: rows, n + 1, h => by
    have hr := h r (by simp)
    have hs : (n + 1) * sz = r.length + n * sz := by rw [hr, Nat.add_mul, Nat.one_mul, Nat.add_comm]
    rw [List.drop_succ_cons, List.flatten_cons, flat_drop rows n (fun r hr => h r (by simp [hr])), hs, List.drop_length_add_append]
theorem append_room {P : Program} {w : World} {B : BMap} {S : Nat → Prop} {H : List AObj} (hr : HRel w B S H) {t e ty : TypeId} {T : ATy} (hu : P.underlying t = some (.slice e)) (hT : ATy.of P e = some T)
    {x : AV} {id len ext : Nat} {v u : Value} (hs : ARel w B S H (.os id 0 len ext) v) (hx : ARel w B S H x u) {rows news : List (List AV)} (hn : aRows H T.size x = some news)
    (hH : H[id]? = some (.arr e T.size rows)) (hext : rows.length = ext) (hroom : len + news.length ≤ ext) :
    ∃ v' w' B', (Builtin.append_ #[t, t] ty #[v, u]).run P w = .ok v' w' ∧ Step w B S H w' B' S (H.set id (.arr e T.size (rows.take len ++ news ++ rows.drop (len + news.length)))) ∧
      HRel w' B' S (H.set id (.arr e T.size (rows.take len ++ news ++ rows.drop (len + news.length)))) ∧
      ARel w' B' S (H.set id (.arr e T.size (rows.take len ++ news ++ rows.drop (len + news.length)))) (.os id 0 (len + news.length) ext) v' := by
  obtain ⟨hnl, A, c, rfl, hAn, _, hAc, nv, hnrel, hn1, hncell⟩ := rows_rel hr hx hn
  obtain ⟨i, d, z, hi1, hi2, hi3, hTe⟩ := ATy.info hT
  have hnlen : nv.length = news.length * T.size := by rw [← hnrel.1, flatten_len hnl]
  have hTs : i.size = T.size := by rw [hTe]
  obtain ⟨hol, hsz, _⟩ := hr.obj id _ hH
  have hlt := (List.getElem?_eq_some_iff.1 hH).1
  subst hext
  have hrl : (rows.take len ++ news ++ rows.drop (len + news.length)).length = rows.length := by simp; omega
  cases hs with
  | os _ _ hl =>
    have h2 := (hl _ _ _ hH).2 rfl
    have h2' := h2
    unfold OsRel at h2
    by_cases hm0 : news.length = 0
    · have hnn : news = [] := List.eq_nil_of_length_eq_zero hm0
      subst hnn
      have hHH : H.set id (.arr e T.size (rows.take len ++ [] ++ rows.drop (len + ([] : List (List AV)).length))) = H := by
        rw [List.append_nil, List.length_nil, Nat.add_zero, List.take_append_drop]
        obtain ⟨h1, h2⟩ := List.getElem?_eq_some_iff.1 hH
        rw [← h2]; simp
      rw [hHH]
      cases hB : B id with
      | none =>
        rw [hB] at h2
        obtain ⟨_, _, h4, rfl⟩ := h2
        subst h4
        have hrun := run_append_none (P := P) (ty := ty) hu hT w A none 0 0 c (Nat.le_refl _)
        exact ⟨_, w, B, hrun, Step.refl _ _ _ _, hr, .os hlt rfl hl⟩
      | some bc =>
        obtain ⟨b, cap⟩ := bc
        rw [hB] at h2
        obtain ⟨h3, h4, o', rfl, h5, h6⟩ := h2
        have hrun := run_append_none (P := P) (ty := ty) hu hT w A (some ⟨b, o', none⟩) len (cap - 0) c (by omega)
        exact ⟨_, w, B, hrun, Step.refl _ _ _ _, hr, .os hlt rfl hl⟩
    · have hA : ∃ ad, A = some ad := by
        cases A with
        | none => exact absurd (by simp [hAn rfl]) hm0
        | some ad => exact ⟨ad, rfl⟩
      obtain ⟨ad, rfl⟩ := hA
      cases hB : B id with
      | none =>
        rw [hB] at h2
        obtain ⟨_, _, h4, rfl⟩ := h2
        have := hr.obj id _ hH
        obtain ⟨_, _, h⟩ := this
        rcases h with ⟨_, h⟩ | ⟨b, cap, cur, h, _⟩
        · subst h
          simp at hroom
          exact absurd (by rw [hroom.2]; rfl) hm0
        · rw [hB] at h; cases h
      | some bc =>
        obtain ⟨b, cap⟩ := bc
        rw [hB] at h2
        obtain ⟨h3, h4, o', rfl, h5, h6⟩ := h2
        have ho := h6 rfl
        subst ho
        obtain ⟨_, _, cur, g1, g2, g3, g4, g5, g6⟩ := hr.arr hH hB
        have hcm : rows.length * T.size ≤ cap * T.size := Nat.mul_le_mul_right _ g2
        have hle : len * T.size + news.length * T.size ≤ rows.length * T.size := by rw [← Nat.add_mul]; exact Nat.mul_le_mul_right _ hroom
        have hrun := run_append_room (P := P) w t ty e i hu hi1 b len (cap - 0) cur.toArray (by simpa using g1) ad news.length c nv (by rw [hTs]; exact hnlen) (hncell ad rfl) hn1 (by omega) (by rw [hTs, hnlen]; simp; omega)
        rw [hTs] at hrun
        simp only [] at hrun
        have u := upd_set (b := b) (c := cap) hr hlt (by rw [hH]; simp) hB (cur.take (len * T.size) ++ nv ++ cur.drop (len * T.size + nv.length)).toArray
          (.arr e T.size (rows.take len ++ news ++ rows.drop (len + news.length)))
          (fun t' sz' rows' e => by rw [hH] at e; simp only [Option.some.injEq, AObj.arr.injEq] at e; obtain ⟨rfl, rfl, rfl⟩ := e; exact ⟨_, rfl, hrl.symm⟩) (fun e => absurd hH (e _ _ _))
        have hst := u.step hr
        have htk : (cur.take (len * T.size) ++ nv ++ cur.drop (len * T.size + nv.length)).take (rows.length * T.size) = (cur.take (rows.length * T.size)).take (len * T.size) ++ nv ++ (cur.take (rows.length * T.size)).drop (len * T.size + nv.length) := splice_take cur nv (len * T.size) (rows.length * T.size) (by omega) (by omega)
        have hflat : (rows.take len ++ news ++ rows.drop (len + news.length)).flatten = rows.flatten.take (len * T.size) ++ news.flatten ++ rows.flatten.drop (len * T.size + nv.length) := by
          rw [List.flatten_append, List.flatten_append, flat_take rows len hol, flat_drop rows _ hol]
          congr 2
          rw [hnlen, Nat.add_mul]
        refine ⟨_, _, B, hrun, hst, u.hrel hr ⟨?_, hsz, .inr ⟨b, cap, _, hB, setRow_heap w b _ _ e _ (by simpa using g1), by rw [hrl]; exact g2, g3, ?_, ?_, ?_⟩⟩, ?_⟩
        · intro r hrm
          simp only [List.mem_append] at hrm
          rcases hrm with (hrm | hrm) | hrm
          · exact hol r (List.mem_of_mem_take hrm)
          · exact hnl r hrm
          · exact hol r (List.mem_of_mem_drop hrm)
        · simp; omega
        · intro y hy
          rw [hrl, htk] at hy
          simp only [List.mem_append] at hy
          rcases hy with (hy | hy) | hy
          · exact g5 y (List.mem_of_mem_take hy)
          · exact hn1 y hy
          · exact g5 y (List.mem_of_mem_drop hy)
        · rw [hrl, htk, hflat]
          exact (((g6.take _).append hnrel).append (g6.drop _)).mono hst
        · refine .os (by simpa using hlt) rfl (fun t' sz' rows' he => ?_)
          simp only [List.getElem?_set, if_true, hlt, Option.some.injEq, AObj.arr.injEq] at he
          obtain ⟨_, rfl, rfl⟩ := he
          refine ⟨by rw [hrl]; exact Nat.le_refl _, fun _ => ?_⟩
          unfold OsRel
          rw [hB]
          exact ⟨by omega, h4, 0, rfl, fun _ => by omega, fun _ => rfl⟩
end Go.Proofs.YtpfjlifneibhfaaGreat.AL
namespace Go.Proofs.YtpfjlifneibhfaaGreat.AL
variable [G : GTab]
def aev (tm : List AV) : Operand → AV
  | .tmp t => tm[t]?.getD (.tup [])
  | .const v => .ofV v
  | .global g => match GTab.tab g with
    | some cells => .rp cells
    | none => .sc (.pointer (some ⟨g, 0, none⟩))
  | .func f => .fn (.func f) [] []
def AV.conc1 : AV → Option Value
  | .pv (.sc x) => some x
  | _ => none
def AV.concL : List AV → Option (List Value)
  | [] => some []
  | a :: asx => match a.conc1, concL asx with
    | some x, some xs => some (x :: xs)
    | _, _ => none
def AV.conc : AV → Option Value
  | .pv (.sc x) => some x
  | .agg cs => (concL cs).map fun xs => .agg xs.toArray
  | .tup cs => (concL cs).map fun xs => .tuple xs.toArray
  | _ => none
inductive ARes where
  | next (v : AV) (H : List AObj)
  | pan (x : AV)
  | enter (f : FuncId) (args : List AV)
  | run
def ARes.ofV (H : List AObj) : Option AV → ARes
  | some v => .next v H
  | none => .run
def aInt (op : BinOp) (k : IntKind) (a b : Int) : Option Value :=
  match op with
  | .add => some (.int k (k.wrap (a + b)))
  | .sub => some (.int k (k.wrap (a - b)))
  | .mul => some (.int k (k.wrap (a * b)))
  | .quo => if b = 0 then none else some (.int k (k.wrap (a.tdiv b)))
  | .rem => if b = 0 then none else some (.int k (a.tmod b))
  | .eql => some (.bool (a == b))
  | .neq => some (.bool (a != b))
  | .lss => some (.bool (a < b))
  | .leq => some (.bool (a ≤ b))
  | .gtr => some (.bool (a > b))
  | .geq => some (.bool (a ≥ b))
  | _ => none
def AV.intOf? : AV → Option (IntKind × Int)
  | .pv (.sc (.int k n)) => some (k, n)
  | _ => none
/-- A bound of a slice expression: none, or a number. -/
def aBound (tm : List AV) : Option Operand → Option (Option (IntKind × Int))
  | none => some none
  | some x => match (aev tm x).intOf? with
    | some kn => some (some kn)
    | none => none
def aAppend (P : Program) (H : List AObj) (t : TypeId) (s x : AV) : Option (AV × List AObj) :=
  match ATy.of P t with
  | some T => match T.desc with
    | .slice e => match ATy.of P e with
      | some E => if E.zero.length = E.size ∧ 0 < E.size then
          match aRows H E.size x with
          | some news => match s with
            | .os id 0 len ext => match H[id]? with
              | some (.arr e' sz rows) =>
                if e' = e ∧ sz = E.size ∧ len = ext ∧ rows.length = ext ∧ (rows.length + news.length) * E.bytes ≤ 140737488355328 ∧ rows.length + news.length ≤ 9223372036854775807 then
                  some (.os id 0 (rows.length + news.length) (rows.length + news.length), H.set id (.arr e E.size (rows ++ news)))
                else if e' = e ∧ sz = E.size ∧ rows.length = ext ∧ len + news.length ≤ ext then
                  some (.os id 0 (len + news.length) ext, H.set id (.arr e E.size (rows.take len ++ news ++ rows.drop (len + news.length)))) else none
              | _ => none
            | .pv (.sc (.slice none 0 0)) =>
              if news.length * E.bytes ≤ 140737488355328 ∧ news.length ≤ 9223372036854775807 then some (.os H.length 0 news.length news.length, H ++ [.arr e E.size news]) else none
            | _ => none
          | none => none
        else none
      | none => none
    | _ => none
  | none => none
/-- The greatest, or the least, of two or three numbers. -/
def aExt (mx : Bool) : List AV → Option (IntKind × Int)
  | [a, b] => match a.intOf?, b.intOf? with
    | some (k, n), some (_, m) => some (k, if mx = true then (if m > n then m else n) else (if m < n then m else n))
    | _, _ => none
  | [a, b, c] => match a.intOf?, b.intOf?, c.intOf? with
    | some (k, x), some (_, y), some (_, z) => some (k, if mx = true then (if z > (if y > x then y else x) then z else (if y > x then y else x)) else (if z < (if y < x then y else x) then z else (if y < x then y else x)))
    | _, _, _ => none
  | _ => none
def aCall (P : Program) (tm : List AV) (H : List AObj) (c : Call) : ARes :=
  match c.callee with
  | .builtin .len => match c.args.toList, c.argTypes.toList with
    | [x], [t] => match aLen P H t (aev tm x) with
      | some n => .next (.sc (.int .i64 n)) H
      | none => .run
    | _, _ => .run
  | .builtin .append => match c.args.toList, c.argTypes.toList with
    | [s, x], [t, t'] => if t = t' then (match aAppend P H t (aev tm s) (aev tm x) with
      | some (v, H') => .next v H'
      | none => .run) else .run
    | _, _ => .run
  | .builtin .max => match aExt true (c.args.toList.map (aev tm)) with
    | some (k, n) => .next (.sc (.int k n)) H
    | none => .run
  | .builtin .min => match aExt false (c.args.toList.map (aev tm)) with
    | some (k, n) => .next (.sc (.int k n)) H
    | none => .run
  | .value f => match aev tm f with
    | .fn (.func g) fi ca => .enter g (fi ++ c.args.toList.map (aev tm) ++ ca)
    | _ => .run
  | _ => .run
/-- Equality of single cells. -/
def aEq0 (P : Program) (t : TypeId) : AV → AV → Option Bool
  | .pv (.sc (.bool x)), .pv (.sc (.bool y)) => match P.underlying t with
    | some .bool => some (x == y)
    | _ => none
  | .pv (.sc (.string x)), .pv (.sc (.string y)) => some (x.toList == y.toList)
  | .p _ _, .pv (.sc (.pointer none)) => match P.underlying t with
    | some (.pointer _) => some false
    | _ => none
  | .rp _, .pv (.sc (.pointer none)) => match P.underlying t with
    | some (.pointer _) => some false
    | _ => none
  | .pv (.sc (.pointer none)), .pv (.sc (.pointer none)) => match P.underlying t with
    | some (.pointer _) => some true
    | _ => none
  | _, _ => none
def aEqStep (P : Program) (H : List AObj) (op : BinOp) (t : TypeId) (a b : AV) : ARes :=
  match aEq P t a b with
  | some r => match op with
    | .eql => .next (.sc (.bool r)) H
    | .neq => .next (.sc (.bool !r)) H
    | _ => .run
  | none => .run
def aStep (P : Program) (tm : List AV) (H : List AObj) (o : Oper) : ARes :=
  match o.op with
  | .move x => .next (aev tm x) H
  | .assign x => .next (aev tm x) H
  | .pick c a b => match aev tm c with
    | .pv (.sc (.bool t)) => .next (if t then aev tm a else aev tm b) H
    | _ => .run
  | .alloc t => match ATy.of P t with
    | some T => if T.zero.all (·.oneCell') then .next (.p H.length 0) (H ++ [.cells t (aZero T)]) else .run
    | none => .run
  | .box t x => if (aev tm x).cells.all AV.one then .next (.p H.length 0) (H ++ [.cells t (aev tm x).cells]) else .run
  | .build t ps => match aBuild P t (ps.toList.map fun p => (p.1, aev tm p.2)) with
    | some cs => .next (.agg cs) H
    | none => .run
  | .buildSlice t n ps => match aSliceLit P t n (ps.toList.map fun p => (p.1, aev tm p.2)) with
    | some (e, sz, rows) => .next (.os H.length 0 rows.length rows.length) (H ++ [.arr e sz rows])
    | none => .run
  | .load t x => match ATy.of P t with
    | some T => if T.desc.isAgg = true ∨ T.size = 1 then .ofV H (aLoad H T.desc.isAgg T.size (aev tm x)) else .run
    | none => .run
  | .store t a v => match ATy.of P t with
    | some T => match aStore H T.size (aev tm a) (aev tm v) with
      | some H' => .next (.tup []) H'
      | none => .run
    | none => .run
  | .nilCheck x => match aev tm x with
    | .p id off => .next (.p id off) H
    | .op id i off ext => .ofV H (match H[id]? with
      | some (.arr _ _ rows) => if rows.length = ext then some (.op id i off ext) else none
      | _ => none)
    | .rp cells => .next (.rp cells) H
    | .fn (.func f) a b => .next (.fn (.func f) a b) H
    | .fn (.via t p f q) a b => .next (.fn (.via t p f q) a b) H
    | _ => .run
  | .binOp op t x y _ => match aev tm x, aev tm y with
    | .pv (.sc (.int k a)), .pv (.sc (.int k' b)) => if k = k' then (match aInt op k a b with
      | some v => .next (.sc v) H
      | none => .run) else .run
    | a, b => match aEq0 P t a b with
      | some r => match op with
        | .eql => .next (.sc (.bool r)) H
        | .neq => .next (.sc (.bool !r)) H
        | _ => .run
      | none => aEqStep P H op t a b
  | .unOp .not _ x => match aev tm x with
    | .pv (.sc (.bool b)) => .next (.sc (.bool !b)) H
    | _ => .run
  | .unOp .neg _ x => match aev tm x with
    | .pv (.sc (.int k n)) => .next (.sc (.int k (k.wrap (-n)))) H
    | _ => .run
  | .makeInterface t x => match ATy.of P t with
    | some T => match T.desc with
      | .iface => .run
      | _ => match aev tm x with
        | .pv (.sc v) => .next (.sc (.iface t v)) H
        | a => .next (.ifc t a) H
    | none => .run
  | .makeFunc f fi ca => .next (.fn f (fi.toList.map (aev tm)) (ca.toList.map (aev tm))) H
  | .fieldAddr s x f => match aField P s f with
    | some (off, F) => if 0 < F.size then .ofV H (aOff H off (aev tm x)) else .run
    | none => .run
  | .field s x f => match aField P s f with
    | some (off, F) => match aev tm x with
      | .agg cs => .ofV H (aPartV F off cs)
      | _ => .run
    | none => .run
  | .indexAddr t x i => match (aev tm i).intOf? with
    | some (_, n) => .ofV H (aIndexAddr P H t (aev tm x) n)
    | none => .run
  | .index t x i => match (aev tm i).intOf? with
    | some (_, n) => (match aev tm x with
      | .pv (.sc (.string s)) => .ofV H (aByte P t s n)
      | a => .ofV H (aIndex P t a n))
    | none => .run
  | .extract x i => match aev tm x with
    | .tup vs => .ofV H vs[i]?
    | _ => .run
  | .slice t x lo hi none => match aBound tm lo, aBound tm hi with
    | some l, some h => .ofV H (aSlice P H t (aev tm x) (l.map (·.2)) (h.map (·.2)))
    | _, _ => .run
  | .makeSlice t l c => match (aev tm l).intOf?, (aev tm c).intOf? with
    | some (_, l), some (_, c) => match aMakeSlice P t l c with
      | some (e, sz, rows) => .next (.os H.length 0 rows.length rows.length) (H ++ [.arr e sz rows])
      | none => .run
    | _, _ => .run
  | .convert src dst x => match aev tm x with
    | .pv (.sc (.int _ n)) => match P.underlying src, P.underlying dst with
      | some _, some (.int k) => .next (.sc (.int k (k.wrap n))) H
      | _, _ => .run
    | .pv (.sc (.string s)) => match P.underlying src, P.underlying dst with
      | some _, some (.slice e) => (match P.underlying e with
        | some (.int .u8) => if s.size ≤ maxLen then .next (.pv (.rs 1 (rowsZ (bytesZ s)))) H else .run
        | _ => .run)
      | _, _ => .run
    | _ => .run
  | .makeMap t none => if aMakeMap P t = true then .next (.mp H.length) (H ++ [.smap []]) else if aMakeMapI P t = true then .next (.mp H.length) (H ++ [.imap []]) else .run
  | .lookup t x k ok => .ofV H (match aLookup P H t ok (aev tm x) (aev tm k) with
    | some v => some v
    | none => aLookupI P H t ok (aev tm x) (aev tm k))
  | .mapUpdate t m k x => match (match aUpdate P H t (aev tm m) (aev tm k) (aev tm x) with
    | some H' => some H'
    | none => aUpdateI P H t (aev tm m) (aev tm k) (aev tm x)) with
    | some H' => .next (.tup []) H'
    | none => .run
  | .insert t m k x => match (match aUpdate P H t (aev tm m) (aev tm k) (aev tm x) with
    | some H' => some H'
    | none => aUpdateI P H t (aev tm m) (aev tm k) (aev tm x)) with
    | some H' => .next (.tup []) H'
    | none => .run
  | .call c => aCall P tm H c
  | .panic x => match aev tm x with
    | .pv (.sc (.iface t v)) => .pan (.sc (.iface t v))
    | .ifc t a => .pan (.ifc t a)
    | _ => .run
  | _ => .run
section
variable {P : Program} {w : World} {B : BMap} {S : Nat → Prop} {H : List AObj}
theorem conc1_eq {a : AV} {v u : Value} (h : ARel w B S H a v) (hc : a.conc1 = some u) : v = u := by
  cases h <;> simp only [AV.conc1] at hc <;> try (cases hc; done)
  rename_i x h
  cases h <;> simp at hc
  exact hc
theorem concL_eq : ∀ {asx : List AV} {vs us : List Value}, ARelL w B S H asx vs → AV.concL asx = some us → vs = us
  | [], [], us, _, h => by simpa [AV.concL] using h
  | [], v :: vs, us, h, _ => by have := h.1; simp at this
  | a :: asx, [], us, h, _ => by have := h.1; simp at this
  | a :: asx, v :: vs, us, h, hc => by
    simp only [AV.concL] at hc
    split at hc
    · rename_i x xs h1 h2
      simp only [Option.some.injEq] at hc
      subst hc
      have e1 := conc1_eq (h.2 0 a v rfl rfl) h1
      have h3 : ARelL w B S H asx vs := ⟨by have := h.1; simpa using this, fun j c u hj hu => h.2 (j + 1) c u (by simpa using hj) (by simpa using hu)⟩
      have e2 := concL_eq h3 h2
      rw [e1, e2]
    · cases hc
theorem conc_eq {a : AV} {v u : Value} (h : ARel w B S H a v) (hc : a.conc = some u) : v = u := by
  cases h with
  | any | p _ _ _ | os _ _ _ | op _ _ _ | rp _ | fn _ _ _ _ | ifc _ | mp _ _ _ => simp [AV.conc] at hc
  | pv h => cases h <;> simp [AV.conc] at hc; exact hc
  | agg hl h1 h =>
    simp only [AV.conc, Option.map_eq_some_iff] at hc
    obtain ⟨xs, h2, rfl⟩ := hc
    rw [concL_eq ⟨hl, h⟩ h2]
  | tup hl h =>
    simp only [AV.conc, Option.map_eq_some_iff] at hc
    obtain ⟨xs, h2, rfl⟩ := hc
    rw [concL_eq ⟨hl, h⟩ h2]
/-- Where the machine comes to. -/
def Comes1 (P : Program) (w : World) (B : BMap) (S : Nat → Prop) (H : List AObj) (s : Sem Next) (v : AV) (H' : List AObj) : Prop :=
  ∃ r w' B' S', (s.run P w = .ok (.value r) w' ∨ (s.run P w = .ok .skip w' ∧ r = undef)) ∧ Step w B S H w' B' S' H' ∧ HRel w' B' S' H' ∧ ARel w' B' S' H' v r
theorem Does.comes {s : Sem Value} {n : Sem Next} {v : AV} {H' : List AObj} (d : Does P w B S H s v H') (hn : n = (do pure (.value (← s)))) : Comes1 P w B S H n v H' := by
  obtain ⟨r, w', B', h1, h2⟩ := d
  subst hn
  exact ⟨r, w', B', S, .inl (by simp [h1]), h2⟩
theorem DoesU.comes {s : Sem Unit} {n : Sem Next} {H' : List AObj} (d : DoesU P w B S H s H') (hn : n = (do s; pure .skip)) : Comes1 P w B S H n (.tup []) H' := by
  obtain ⟨w', B', h1, h2, h3⟩ := d
  subst hn
  refine ⟨undef, w', B', S, .inr ⟨by simp [h1], rfl⟩, h2, h3, ?_⟩
  exact .tup (vs := []) rfl (fun j c v h => by simp at h)
theorem comes_same {n : Sem Next} {v : AV} {r : Value} (hr : HRel w B S H) (h : n.run P w = .ok (.value r) w) (hv : ARel w B S H v r) : Comes1 P w B S H n v H :=
  ⟨r, w, B, S, .inl h, Step.refl _ _ _ _, hr, hv⟩
theorem intOf_eq {a : AV} {v : Value} {k : IntKind} {n : Int} (h : ARel w B S H a v) (hi : a.intOf? = some (k, n)) : v = .int k n := by
  unfold AV.intOf? at hi
  split at hi
  · simp only [Option.some.injEq, Prod.mk.injEq] at hi
    obtain ⟨rfl, rfl⟩ := hi
    cases h with | pv h => cases h with | sc => rfl
  · cases hi
theorem sc_eq {x v : Value} (h : ARel w B S H (.pv (.sc x)) v) : v = x := by cases h with | pv h => cases h with | sc => rfl
theorem aInt_run {op : BinOp} {k : IntKind} {a b : Int} {v : Value} (h : aInt op k a b = some v) (t : TypeId) (x y : Operand) :
    (do eqGuard op t x y (.int k a) (.int k b); binOp op t (.int k a) (.int k b) : Sem Value).run P w = .ok v w ∧ v.oneCell' = true := by
  have hg : ∀ op, (eqGuard op t x y (.int k a) (.int k b)).run P w = .ok () w := by
    intro op; cases op <;> simp [eqGuard]
  rw [Sem.run_bind, hg, Result.andThen_ok]
  cases op <;> simp only [aInt] at h <;> try (cases h; done)
  all_goals first
    | (simp only [Option.some.injEq] at h; subst h; exact ⟨by simp [binOp, Op.intArith, Op.intCmp], rfl⟩)
    | (split at h
       · cases h
       · simp only [Option.some.injEq] at h; subst h; rename_i hb; exact ⟨by simp [binOp, Op.intDiv, hb], rfl⟩)
theorem map_pairs {tm : List AV} {a : Act} (hev : ∀ x, ARel w B S H (aev tm x) (a.eval x)) (ps : Array (Nat × Operand)) :
    (∀ (j : Nat) (p : Nat × AV) (q : Nat × Value), (ps.toList.map fun p => (p.1, aev tm p.2))[j]? = some p → (ps.map fun p => (p.1, a.eval p.2))[j]? = some q → p.1 = q.1 ∧ ARel w B S H p.2 q.2) ∧
      (ps.toList.map fun p => (p.1, aev tm p.2)).length = (ps.map fun p => (p.1, a.eval p.2)).size := by
  refine ⟨fun j p q hp hq => ?_, by simp⟩
  simp only [List.getElem?_map, Array.getElem?_map, Option.map_eq_some_iff] at hp hq
  obtain ⟨x, hx, rfl⟩ := hp
  obtain ⟨y, hy, rfl⟩ := hq
  rw [Array.getElem?_toList] at hx
  rw [hx] at hy
  simp only [Option.some.injEq] at hy
  subst hy
  exact ⟨rfl, hev _⟩
theorem map_list {tm : List AV} {a : Act} (hev : ∀ x, ARel w B S H (aev tm x) (a.eval x)) (xs : List Operand) : ARelL w B S H (xs.map (aev tm)) (xs.map a.eval) := by
  refine ⟨by simp, fun j c v hc hv => ?_⟩
  simp only [List.getElem?_map, Option.map_eq_some_iff] at hc hv
  obtain ⟨x, hx, rfl⟩ := hc
  obtain ⟨y, hy, rfl⟩ := hv
  rw [hx] at hy
  simp only [Option.some.injEq] at hy
  subst hy
  exact hev _
theorem ofV_next {o : Option AV} {v : AV} {H' : List AObj} (h : ARes.ofV H o = .next v H') : o = some v ∧ H' = H := by
  cases o with
  | none => simp [ARes.ofV] at h
  | some x => simp only [ARes.ofV, ARes.next.injEq] at h; exact ⟨by rw [h.1], h.2.symm⟩
theorem ptr_value {a : AV} {v : Value} (h : ARel w B S H a v) (ha : (∃ id off, a = .p id off) ∨ (∃ c, a = .rp c) ∨ (∃ f x y, a = .fn (.func f) x y) ∨ (∃ t p f q x y, a = .fn (.via t p f q) x y)) :
    ∀ (o : Oper) (ρ : Operand → Value) (x : Operand), o.op = .nilCheck x → ρ x = v → (execOp ρ o).run P w = .ok (.value v) w := by
  intro o ρ x ho hx
  unfold execOp
  simp only [ho]
  rcases ha with ⟨id, off, rfl⟩ | ⟨c, rfl⟩ | ⟨f, fi, ca, rfl⟩ | ⟨t, p, f, q, fi, ca, rfl⟩ <;> cases h <;> simp [hx]
theorem run_eql_str (t : TypeId) (a b : ByteArray) : (binOp .eql t (.string a) (.string b)).run P w = .ok (.bool (a.toList == b.toList)) w := by simp [binOp, Op.stringOp]
theorem run_neq_str (t : TypeId) (a b : ByteArray) : (binOp .neq t (.string a) (.string b)).run P w = .ok (.bool (!(a.toList == b.toList))) w := by simp [binOp, Op.stringOp]
theorem aEq0_run {t : TypeId} {a b : AV} {r : Bool} {x y : Value} (h : aEq0 P t a b = some r) (hx : ARel w B S H a x) (hy : ARel w B S H b y) (X Y : Operand) :
    (do eqGuard .eql t X Y x y; binOp .eql t x y : Sem Value).run P w = .ok (.bool r) w ∧ (do eqGuard .neq t X Y x y; binOp .neq t x y : Sem Value).run P w = .ok (.bool !r) w := by
  unfold aEq0 at h
  have pt : ∀ {e : TypeId}, P.underlying t = some (.pointer e) → P.underlying t = some (.pointer (P.pointee t)) := by
    intro e he; simp [Program.pointee, he]
  split at h
  · split at h
    · rename_i hu
      simp only [Option.some.injEq] at h; subst h
      rw [sc_eq hx, sc_eq hy]
      simp only [eqGuard, Sem.run_bind]
      exact ⟨by simpa using run_eql_bool w _ _ _ hu, by simpa using run_neq_bool w _ _ _ hu⟩
    · cases h
  · simp only [Option.some.injEq] at h; subst h
    rw [sc_eq hx, sc_eq hy]
    simp only [eqGuard, Sem.run_bind]
    exact ⟨by simpa using run_eql_str (P := P) (w := w) t _ _, by simpa using run_neq_str (P := P) (w := w) t _ _⟩
  · split at h
    · rename_i hu
      simp only [Option.some.injEq] at h; subst h
      rw [sc_eq hy]
      cases hx with
      | p _ _ _ =>
        simp only [eqGuard, Sem.run_bind]
        exact ⟨by simp; exact run_eql_pointer_nil w _ _ (pt hu), by simp; exact run_neq_pointer_nil w _ _ (pt hu)⟩
    · cases h
  · split at h
    · rename_i hu
      simp only [Option.some.injEq] at h; subst h
      rw [sc_eq hy]
      cases hx with
      | rp _ =>
        simp only [eqGuard, Sem.run_bind]
        exact ⟨by simp; exact run_eql_pointer_nil w _ _ (pt hu), by simp; exact run_neq_pointer_nil w _ _ (pt hu)⟩
    · cases h
  · split at h
    · rename_i hu
      simp only [Option.some.injEq] at h; subst h
      rw [sc_eq hx, sc_eq hy]
      simp only [eqGuard, Sem.run_bind]
      exact ⟨by simp; exact run_eql_pointer_nil w _ _ (pt hu), by simp; exact run_neq_pointer_nil w _ _ (pt hu)⟩
    · cases h
  · cases h
theorem step_next {tm : List AV} {a : Act} {o : Oper} (hr : HRel w B S H) (hev : ∀ x, ARel w B S H (aev tm x) (a.eval x)) {v : AV} {H' : List AObj}
    (h : aStep P tm H o = .next v H') : Comes1 P w B S H (execOp a.eval o) v H' := by
  cases hop : o.op <;> simp only [aStep, hop] at h <;> try (cases h; done)
  case move x =>
    simp only [ARes.next.injEq] at h; obtain ⟨rfl, rfl⟩ := h
    exact comes_same hr (by simp [execOp, hop]) (hev x)
  case assign x =>
    simp only [ARes.next.injEq] at h; obtain ⟨rfl, rfl⟩ := h
    exact comes_same hr (by simp [execOp, hop]) (hev x)
  case pick c x y =>
    split at h
    · rename_i t ht
      simp only [ARes.next.injEq] at h; obtain ⟨rfl, rfl⟩ := h
      have hc := hev c
      rw [ht] at hc
      have hc' := sc_eq hc
      refine comes_same hr (r := if t then a.eval x else a.eval y) ?_ ?_
      · cases t <;> simp [execOp, hop, hc', asBool]
      · cases t
        · exact hev y
        · exact hev x
    · cases h
  case alloc t =>
    split at h
    · rename_i T hT
      split at h
      · rename_i hz
        simp only [ARes.next.injEq] at h; obtain ⟨rfl, rfl⟩ := h
        exact (does_alloc hr hT (fun v hv => List.all_eq_true.1 hz v hv)).comes (by simp [execOp, hop])
      · cases h
    · cases h
  case box t x =>
    split at h
    · rename_i hz
      simp only [ARes.next.injEq] at h; obtain ⟨rfl, rfl⟩ := h
      exact (does_box hr (hev x) (fun c hc => List.all_eq_true.1 hz c hc)).comes (by simp [execOp, hop])
    · cases h
  case build t ps =>
    split at h
    · rename_i cs hcs
      simp only [ARes.next.injEq] at h; obtain ⟨rfl, rfl⟩ := h
      obtain ⟨h1, h2⟩ := map_pairs hev ps
      refine (does_build hr ?_ h1 h2 hcs).comes (by simp [execOp, hop])
      intro T fs hT hd x hx
      unfold aBuild at hcs
      rw [hT] at hcs
      simp only [hd] at hcs
      split at hcs
      · split at hcs
        · rename_i hall
          have := List.all_eq_true.1 hall x hx
          exact Option.isSome_iff_exists.1 this
        · cases hcs
      · cases hcs
    · cases h
  case buildSlice t n ps =>
    split at h
    · rename_i e sz rows hcs
      simp only [ARes.next.injEq] at h; obtain ⟨rfl, rfl⟩ := h
      obtain ⟨h1, h2⟩ := map_pairs hev ps
      exact (does_buildSlice hr h1 h2 hcs).comes (by simp [execOp, hop])
    · cases h
  case load t x =>
    split at h
    · rename_i T hT
      split at h
      · rename_i hs
        obtain ⟨h1, rfl⟩ := ofV_next h
        exact (does_load hT hs hr (hev x) h1).comes (by simp [execOp, hop])
      · cases h
    · cases h
  case store t x y =>
    split at h
    · rename_i T hT
      split at h
      · rename_i H1 hs
        simp only [ARes.next.injEq] at h; obtain ⟨rfl, rfl⟩ := h
        exact (does_store hT hr (hev x) (hev y) hs).comes (by simp [execOp, hop])
      · cases h
    · cases h
  case nilCheck x =>
    have hx := hev x
    split at h
    · rename_i id off he
      simp only [ARes.next.injEq] at h; obtain ⟨rfl, rfl⟩ := h
      rw [he] at hx
      exact comes_same hr (ptr_value hx (.inl ⟨_, _, rfl⟩) o a.eval x hop rfl) hx
    · rename_i id i off ext he
      rw [he] at hx
      obtain ⟨h1, rfl⟩ := ofV_next h
      split at h1
      · rename_i t sz rows hH
        split at h1
        · rename_i hc
          simp only [Option.some.injEq] at h1
          subst h1
          have hx' := hx
          cases hx with
          | op hid h1 hl =>
            obtain ⟨_, _, b, c, _, hv⟩ := (hl _ _ _ hH).2 hc
            refine comes_same hr (r := a.eval x) ?_ hx'
            unfold execOp
            simp only [hop]
            rw [hv]
            rfl
        · cases h1
      · cases h1
    · rename_i c he
      simp only [ARes.next.injEq] at h; obtain ⟨rfl, rfl⟩ := h
      rw [he] at hx
      exact comes_same hr (ptr_value hx (.inr (.inl ⟨_, rfl⟩)) o a.eval x hop rfl) hx
    · rename_i f fi ca he
      simp only [ARes.next.injEq] at h; obtain ⟨rfl, rfl⟩ := h
      rw [he] at hx
      exact comes_same hr (ptr_value hx (.inr (.inr (.inl ⟨_, _, _, rfl⟩))) o a.eval x hop rfl) hx
    · rename_i t p f q fi ca he
      simp only [ARes.next.injEq] at h; obtain ⟨rfl, rfl⟩ := h
      rw [he] at hx
      exact comes_same hr (ptr_value hx (.inr (.inr (.inr ⟨_, _, _, _, _, _, rfl⟩))) o a.eval x hop rfl) hx
    · cases h
  case binOp op t x y t' =>
    have hx := hev x
    have hy := hev y
    split at h
    · rename_i k m k' n h1 h2
      rw [h1] at hx
      rw [h2] at hy
      split at h
      · rename_i hk
        subst hk
        split at h
        · rename_i v' hv
          simp only [ARes.next.injEq] at h; obtain ⟨rfl, rfl⟩ := h
          obtain ⟨g1, g2⟩ := aInt_run (P := P) (w := w) hv t x y
          refine comes_same hr (r := v') ?_ (.sc g2)
          rw [← sc_eq hx, ← sc_eq hy] at g1
          unfold execOp
          simp only [hop]
          rw [Sem.run_bind, g1]
          rfl
        · cases h
      · cases h
    · split at h
      · rename_i r hr0
        obtain ⟨g1, g2⟩ := aEq0_run hr0 hx hy x y
        split at h
        · simp only [ARes.next.injEq] at h; obtain ⟨rfl, rfl⟩ := h
          refine comes_same hr (r := .bool r) ?_ (.sc rfl)
          unfold execOp
          simp only [hop]
          rw [Sem.run_bind, g1]
          rfl
        · simp only [ARes.next.injEq] at h; obtain ⟨rfl, rfl⟩ := h
          refine comes_same hr (r := .bool !r) ?_ (.sc rfl)
          unfold execOp
          simp only [hop]
          rw [Sem.run_bind, g2]
          rfl
        · cases h
      unfold aEqStep at h
      split at h
      · rename_i r hr0
        obtain ⟨g1, g2⟩ := aEq_run hr0 hx hy x y
        split at h
        · simp only [ARes.next.injEq] at h; obtain ⟨rfl, rfl⟩ := h
          refine comes_same hr (r := .bool r) ?_ (.sc rfl)
          unfold execOp
          simp only [hop]
          rw [Sem.run_bind, g1]
          rfl
        · simp only [ARes.next.injEq] at h; obtain ⟨rfl, rfl⟩ := h
          refine comes_same hr (r := .bool !r) ?_ (.sc rfl)
          unfold execOp
          simp only [hop]
          rw [Sem.run_bind, g2]
          rfl
        · cases h
      · cases h
  case unOp op t x =>
    cases op <;> simp only at h <;> try (cases h; done)
    case not =>
      have hx := hev x
      split at h
      · rename_i b hb
        simp only [ARes.next.injEq] at h; obtain ⟨rfl, rfl⟩ := h
        rw [hb] at hx
        refine comes_same hr (r := .bool !b) ?_ (.sc rfl)
        simp [execOp, hop, sc_eq hx, Op.unary]
      · cases h
    case neg =>
      have hx := hev x
      split at h
      · rename_i k n hb
        simp only [ARes.next.injEq] at h; obtain ⟨rfl, rfl⟩ := h
        rw [hb] at hx
        refine comes_same hr (r := .int k (k.wrap (-n))) ?_ (.sc rfl)
        simp [execOp, hop, sc_eq hx, Op.unary, Op.intArith]
      · cases h
  case makeInterface t x =>
    have hx := hev x
    split at h
    · rename_i T hT
      obtain ⟨d, hd1, hd2⟩ := ATy.run_under hT
      have hu := run_underlying hd1 w
      split at h
      · cases h
      · rename_i hnd
        have hni : ∀ m, d ≠ .interface m := by rintro m rfl; exact hnd (by rw [hd2]; rfl)
        have hrun : (execOp a.eval o).run P w = .ok (.value (.iface t (a.eval x))) w := by
          unfold execOp
          simp only [hop, Instr.makeInterface, Sem.run_bind, hu, Result.andThen_ok]
          cases d <;> simp_all
        split at h
        · rename_i v' hv'
          simp only [ARes.next.injEq] at h; obtain ⟨rfl, rfl⟩ := h
          rw [hv'] at hx
          exact comes_same hr hrun (by rw [sc_eq hx]; exact .sc rfl)
        · simp only [ARes.next.injEq] at h; obtain ⟨rfl, rfl⟩ := h
          exact comes_same hr hrun (.ifc hx)
    · cases h
  case makeFunc f fi ca =>
    simp only [ARes.next.injEq] at h; obtain ⟨rfl, rfl⟩ := h
    refine comes_same hr (r := .func f (fi.toList.map a.eval).toArray (ca.toList.map a.eval).toArray) ?_ ?_
    · simp [execOp, hop, Instr.makeFunc]
      constructor <;> (apply Array.ext'; simp)
    · have h1 := map_list hev fi.toList
      have h2 := map_list hev ca.toList
      exact .fn h1.1 h2.1 h1.2 h2.2
  case fieldAddr s x f =>
    split at h
    · rename_i off F hF
      split at h
      · rename_i hz
        obtain ⟨h1, rfl⟩ := ofV_next h
        exact (does_fieldAddr hr hF hz (hev x) h1).comes (by simp [execOp, hop])
      · cases h
    · cases h
  case field s x f =>
    split at h
    · rename_i off F hF
      have hx := hev x
      split at h
      · rename_i cs hcs
        rw [hcs] at hx
        obtain ⟨h1, rfl⟩ := ofV_next h
        exact (does_field hr hF hx h1).comes (by simp [execOp, hop])
      · cases h
    · cases h
  case indexAddr t x i =>
    split at h
    · rename_i k n hi
      obtain ⟨h1, rfl⟩ := ofV_next h
      have := intOf_eq (hev i) hi
      refine (does_indexAddr (k := k) hr (hev x) h1).comes (by simp [execOp, hop, this])
    · cases h
  case index t x i =>
    split at h
    · rename_i k n hi
      have hii := intOf_eq (hev i) hi
      split at h
      · rename_i s hx
        obtain ⟨h1, rfl⟩ := ofV_next h
        have hxx := hev x
        rw [hx] at hxx
        obtain ⟨r, hrun, hrel⟩ := run_byte (P := P) (w := w) (B := B) (S := S) (H := H') (k := k) h1
        refine comes_same hr (r := r) ?_ hrel
        simp only [execOp, hop, sc_eq hxx, hii, Sem.run_bind, hrun, Result.andThen_ok, Sem.run_pure]
      · obtain ⟨h1, rfl⟩ := ofV_next h
        refine (does_index (k := k) hr (hev x) h1).comes (by simp [execOp, hop, hii])
    · cases h
  case extract x i =>
    have hx := hev x
    split at h
    · rename_i vs hvs
      rw [hvs] at hx
      obtain ⟨h1, rfl⟩ := ofV_next h
      exact (does_extract hr hx h1).comes (by simp [execOp, hop])
    · cases h
  case slice t x lo hi mx =>
    cases mx with
    | some m => simp only at h; cases h
    | none =>
      simp only at h
      split at h
      · rename_i l g hl hg
        obtain ⟨h1, rfl⟩ := ofV_next h
        have key : ∀ (o : Option Operand) (k : Option (IntKind × Int)), aBound tm o = some k → ∃ k0, o.map a.eval = (k.map (·.2)).map (Value.int k0) := by
          intro o k hk
          cases o with
          | none => simp only [aBound, Option.some.injEq] at hk; subst hk; exact ⟨.i64, rfl⟩
          | some y =>
            simp only [aBound] at hk
            split at hk
            · rename_i kn hkn
              simp only [Option.some.injEq] at hk
              subst hk
              exact ⟨kn.1, by simp [intOf_eq (hev y) hkn]⟩
            · cases hk
        obtain ⟨k1, e1⟩ := key lo l hl
        obtain ⟨k2, e2⟩ := key hi g hg
        refine (does_slice (k1 := k1) (k2 := k2) hr (hev x) h1).comes ?_
        simp [execOp, hop, e1, e2]
      · cases h
  case makeMap t r =>
    cases r with
    | some r => simp only at h; cases h
    | none =>
      simp only at h
      split at h
      · rename_i hm
        simp only [ARes.next.injEq] at h; obtain ⟨rfl, rfl⟩ := h
        exact (does_makeMap hr hm).comes (by simp [execOp, hop])
      · split at h
        · rename_i hm
          simp only [ARes.next.injEq] at h; obtain ⟨rfl, rfl⟩ := h
          exact (does_makeMapI hr hm).comes (by simp [execOp, hop])
        · cases h
  case lookup t x k ok =>
    obtain ⟨h1, rfl⟩ := ofV_next h
    split at h1
    · rename_i v1 hv1
      simp only [Option.some.injEq] at h1
      subst h1
      exact (does_lookup hr (hev x) (hev k) hv1).comes (by simp [execOp, hop])
    · exact (does_lookupI hr (hev x) (hev k) h1).comes (by simp [execOp, hop])
  case mapUpdate t m k x =>
    split at h
    · rename_i H1 hm
      simp only [ARes.next.injEq] at h; obtain ⟨rfl, rfl⟩ := h
      split at hm
      · rename_i H2 hm2
        simp only [Option.some.injEq] at hm
        subst hm
        exact (does_update hr (hev m) (hev k) (hev x) hm2).comes (by simp [execOp, hop])
      · exact (does_updateI hr (hev m) (hev k) (hev x) hm).comes (by simp [execOp, hop])
    · cases h
  case insert t m k x =>
    split at h
    · rename_i H1 hm
      simp only [ARes.next.injEq] at h; obtain ⟨rfl, rfl⟩ := h
      split at hm
      · rename_i H2 hm2
        simp only [Option.some.injEq] at hm
        subst hm
        exact (does_update hr (hev m) (hev k) (hev x) hm2).comes (by simp [execOp, hop])
      · exact (does_updateI hr (hev m) (hev k) (hev x) hm).comes (by simp [execOp, hop])
    · cases h
  case makeSlice t l c =>
    split at h
    · rename_i k1 n1 k2 n2 h1 h2
      split at h
      · rename_i e sz rows hm
        simp only [ARes.next.injEq] at h; obtain ⟨rfl, rfl⟩ := h
        refine (does_makeSlice (k1 := k1) (k2 := k2) hr hm).comes ?_
        simp [execOp, hop, intOf_eq (hev l) h1, intOf_eq (hev c) h2]
      · cases h
    · cases h
  case convert src dst x =>
    have hx := hev x
    split at h
    · rename_i k0 n hv
      rw [hv] at hx
      split at h
      · rename_i d k hs hd
        simp only [ARes.next.injEq] at h; obtain ⟨rfl, rfl⟩ := h
        refine comes_same hr (r := .int k (k.wrap n)) ?_ (.sc rfl)
        have hk : P.intKind dst = k := by simp [Program.intKind, hd]
        have g1 := run_convert_int (P := P) (w := w) src dst k0 n (by rw [hs]; rfl) (by rw [hk]; exact hd)
        rw [hk] at g1
        rw [← sc_eq hx] at g1
        unfold execOp
        simp only [hop]
        rw [Sem.run_bind, g1]
        rfl
      · cases h
    · rename_i s hv
      rw [hv] at hx
      split at h
      · rename_i d e hs hd
        split at h
        · rename_i he
          split at h
          · rename_i hl
            simp only [ARes.next.injEq] at h; obtain ⟨rfl, rfl⟩ := h
            obtain ⟨r, w', S', g1, g2, g3, g4⟩ := comes_bytes (P := P) hr hs hd he s hl
            refine ⟨r, w', B, S', .inl ?_, g2, g3, g4⟩
            unfold execOp
            simp only [hop]
            rw [sc_eq hx, Sem.run_bind, g1]
            rfl
          · cases h
        · cases h
      · cases h
    · cases h
  case call c =>
    unfold aCall at h
    split at h
    · -- len
      rename_i hcal
      split at h
      · rename_i x t hx ht
        split at h
        · rename_i n hn
          simp only [ARes.next.injEq] at h; obtain ⟨rfl, rfl⟩ := h
          refine (does_len (ty := o.type) hr (hev x) hn).comes ?_
          have e1 : c.args = #[x] := Array.ext' hx
          have e2 : c.argTypes = #[t] := Array.ext' ht
          simp [execOp, hop, resolve, hcal, e1, e2, invoke, builtin]
        · cases h
      · cases h
    · -- append
      rename_i hcal
      split at h
      · rename_i s x t t' hx ht
        split at h
        · rename_i ht'
          subst ht'
          split at h
          · rename_i v' H1 hap
            simp only [ARes.next.injEq] at h; obtain ⟨rfl, rfl⟩ := h
            have e1 : c.args = #[s, x] := Array.ext' hx
            have e2 : c.argTypes = #[t, t] := Array.ext' ht
            have hexec : execOp a.eval o = (do pure (.value (← Builtin.append_ #[t, t] o.type #[a.eval s, a.eval x]))) := by
              simp [execOp, hop, resolve, hcal, e1, e2, invoke, builtin]
            unfold aAppend at hap
            split at hap
            · rename_i T hT
              obtain ⟨d, hd1, hd2⟩ := ATy.run_under hT
              split at hap
              · rename_i e he
                rw [hd2] at he
                cases d <;> simp only [ADesc.of] at he <;> try (cases he; done)
                simp only [ADesc.slice.injEq] at he
                subst he
                split at hap
                · rename_i E hE
                  split at hap
                  · rename_i hz
                    split at hap
                    · rename_i news hn
                      have hs := hev s
                      split at hap
                      · rename_i id len ext hsv
                        rw [hsv] at hs
                        split at hap
                        · rename_i e' sz rows hH
                          split at hap
                          · rename_i hc
                            obtain ⟨rfl, rfl, rfl, c4, c5, c6⟩ := hc
                            simp only [Option.some.injEq, Prod.mk.injEq] at hap
                            obtain ⟨rfl, rfl⟩ := hap
                            have hlt := (List.getElem?_eq_some_iff.1 hH).1
                            obtain ⟨v', w', B', g1, g2, g3, g4⟩ := append_rel (P := P) (ty := o.type) hr hd1 hE hz.1 hz.2 hs (hev x) hn (.inl ⟨len, rfl, hH, c4⟩) c5 (by simp only [maxLen]; omega) (if_pos hlt).symm
                            exact Does.comes ⟨v', w', B', g1, g2, g3, g4⟩ hexec
                          · split at hap
                            · rename_i hc
                              obtain ⟨rfl, rfl, c3, c4⟩ := hc
                              simp only [Option.some.injEq, Prod.mk.injEq] at hap
                              obtain ⟨rfl, rfl⟩ := hap
                              obtain ⟨v', w', B', g1, g2, g3, g4⟩ := append_room (P := P) (ty := o.type) hr hd1 hE hs (hev x) hn hH c3 c4
                              exact Does.comes ⟨v', w', B', g1, g2, g3, g4⟩ hexec
                            · cases hap
                        · cases hap
                      · rename_i hsv
                        rw [hsv] at hs
                        split at hap
                        · rename_i hc
                          simp only [Option.some.injEq, Prod.mk.injEq] at hap
                          obtain ⟨rfl, rfl⟩ := hap
                          obtain ⟨v', w', B', g1, g2, g3, g4⟩ := append_rel (P := P) (ty := o.type) (rows := []) (id := H.length) hr hd1 hE hz.1 hz.2 hs (hev x) hn (.inr ⟨rfl, rfl, rfl⟩) (by simpa using hc.1) (by simp only [maxLen]; simp; omega) (if_neg (by omega)).symm
                          simp only [List.length_nil, Nat.zero_add, List.nil_append] at g1 g2 g3 g4
                          exact Does.comes ⟨v', w', B', g1, g2, g3, g4⟩ hexec
                        · cases hap
                      · cases hap
                    · cases hap
                  · cases hap
                · cases hap
              · cases hap
            · cases hap
          · cases h
        · cases h
      · cases h
    · -- max
      rename_i hcal
      split at h
      · rename_i k n hx
        simp only [ARes.next.injEq] at h; obtain ⟨rfl, rfl⟩ := h
        obtain ⟨vs, e1, e2⟩ : ∃ vs : List Value, c.args.toList.map a.eval = vs ∧ ∀ (ts : Array TypeId) (t : TypeId), (Builtin.max_ ts t vs.toArray).run P w = .ok (.int k n) w := by
          refine ⟨_, rfl, fun ts t => ?_⟩
          cases hl : c.args.toList with
          | nil => rw [hl] at hx; cases hx
          | cons x xs => cases xs with
            | nil => rw [hl] at hx; cases hx
            | cons y ys => cases ys with
              | nil =>
                rw [hl] at hx
                simp only [List.map_cons, List.map_nil, aExt] at hx
                split at hx
                · rename_i k1 n1 k2 n2 h1 h2
                  simp only [Option.some.injEq, Prod.mk.injEq, if_true, Bool.false_eq_true, if_false] at hx
                  obtain ⟨rfl, rfl⟩ := hx
                  simp only [List.map_cons, List.map_nil, intOf_eq (hev x) h1, intOf_eq (hev y) h2]
                  exact run_max_int2 _ _ _ _ _ _ _
                · cases hx
              | cons z zs => cases zs with
                | nil =>
                  rw [hl] at hx
                  simp only [List.map_cons, List.map_nil, aExt] at hx
                  split at hx
                  · rename_i k1 n1 k2 n2 k3 n3 h1 h2 h3
                    simp only [Option.some.injEq, Prod.mk.injEq, if_true, Bool.false_eq_true, if_false] at hx
                    obtain ⟨rfl, rfl⟩ := hx
                    simp only [List.map_cons, List.map_nil, intOf_eq (hev x) h1, intOf_eq (hev y) h2, intOf_eq (hev z) h3]
                    exact run_max_int3 _ _ _ _ _ _ _ _ _
                  · cases hx
                | cons => rw [hl] at hx; cases hx
        refine comes_same hr (r := .int k n) ?_ (.sc rfl)
        have e3 : c.args.map a.eval = vs.toArray := by
          rw [← e1]; apply Array.ext'; simp
        have e4 := e2 c.argTypes o.type
        simp [execOp, hop, resolve, hcal, invoke, builtin, e3, e4]
      · cases h
    · -- min
      rename_i hcal
      split at h
      · rename_i k n hx
        simp only [ARes.next.injEq] at h; obtain ⟨rfl, rfl⟩ := h
        obtain ⟨vs, e1, e2⟩ : ∃ vs : List Value, c.args.toList.map a.eval = vs ∧ ∀ (ts : Array TypeId) (t : TypeId), (Builtin.min_ ts t vs.toArray).run P w = .ok (.int k n) w := by
          refine ⟨_, rfl, fun ts t => ?_⟩
          cases hl : c.args.toList with
          | nil => rw [hl] at hx; cases hx
          | cons x xs => cases xs with
            | nil => rw [hl] at hx; cases hx
            | cons y ys => cases ys with
              | nil =>
                rw [hl] at hx
                simp only [List.map_cons, List.map_nil, aExt] at hx
                split at hx
                · rename_i k1 n1 k2 n2 h1 h2
                  simp only [Option.some.injEq, Prod.mk.injEq, if_true, Bool.false_eq_true, if_false] at hx
                  obtain ⟨rfl, rfl⟩ := hx
                  simp only [List.map_cons, List.map_nil, intOf_eq (hev x) h1, intOf_eq (hev y) h2]
                  exact run_min_int2 _ _ _ _ _ _ _
                · cases hx
              | cons z zs => cases zs with
                | nil =>
                  rw [hl] at hx
                  simp only [List.map_cons, List.map_nil, aExt] at hx
                  split at hx
                  · rename_i k1 n1 k2 n2 k3 n3 h1 h2 h3
                    simp only [Option.some.injEq, Prod.mk.injEq, if_true, Bool.false_eq_true, if_false] at hx
                    obtain ⟨rfl, rfl⟩ := hx
                    simp only [List.map_cons, List.map_nil, intOf_eq (hev x) h1, intOf_eq (hev y) h2, intOf_eq (hev z) h3]
                    exact run_min_int3 _ _ _ _ _ _ _ _ _
                  · cases hx
                | cons => rw [hl] at hx; cases hx
        refine comes_same hr (r := .int k n) ?_ (.sc rfl)
        have e3 : c.args.map a.eval = vs.toArray := by
          rw [← e1]; apply Array.ext'; simp
        have e4 := e2 c.argTypes o.type
        simp [execOp, hop, resolve, hcal, invoke, builtin, e3, e4]
      · cases h
    · split at h <;> cases h
    · cases h
  case panic x =>
    split at h <;> cases h
end
end Go.Proofs.YtpfjlifneibhfaaGreat.AL
namespace Go.Proofs.YtpfjlifneibhfaaGreat.AL
variable [G : GTab]
/-- How a call ends. -/
inductive AOut where
  | ret (v : AV) (H : List AObj)
  | pan (x : AV) (H : List AObj)
def AOut.H : AOut → List AObj
  | .ret _ H => H
  | .pan _ H => H
def ERel (w : World) (B : BMap) (S : Nat → Prop) : AOut → Ending → Prop
  | .ret v H, .returned x => ARel w B S H v x
  | .pan v H, .panicked c => ∃ x, c = [{ v := x, recovered := false }] ∧ ARel w B S H v x
  | _, _ => False
/-- A call of function f at abstract arguments, in told memory, ends so. -/
structure ARun (P : Program) (f : FuncId) (args : List AV) (H : List AObj) (out : AOut) : Prop where
  call : ∀ xs w, (callFunc f xs).run P w = .ok (.enter f xs) w
  run : ∀ w B S vs, HRel w B S H → ARelL w B S H args vs → Calls P f vs.toArray w fun e w' =>
    ∃ B' S', Step w B S H w' B' S' out.H ∧ HRel w' B' S' out.H ∧ ERel w' B' S' out e
def aput (tm : List AV) : Option Tmp → AV → List AV
  | some d, v => tm.set d v
  | none, _ => tm
inductive AEx where
  | normal
  | exit (id : Nat)
  | goto (l : Nat)
  | ret
  | pan (x : AV)
/-- Is the operation carried out? -/
def aWanted (ops : List Oper) (tm : List AV) (o : Oper) : Option Bool :=
  match o.guard with
  | none => some true
  | some (j, want) => match (ops[j]?).bind (·.dst) with
    | some d => match tm[d]? with
      | some (.pv (.sc (.bool b))) => some (b == want)
      | some (.tup []) => some false
      | _ => none
    | none => none
def aConcs (tm : List AV) (o : Oper) : Bool := o.op.operands.toList.all fun x => (aev tm x).conc.isSome
def aRho (tm : List AV) (x : Operand) : Value := (aev tm x).conc.getD undef
def notSelect : Op → Bool
  | .select _ _ => false
  | _ => true
/-- A guard that may be told by a case only. -/
def Guarded (b : Bool) (X Y : Prop) : Prop := (b = true → X) ∧ (b = false → Y)
theorem Guarded.intro {b : Bool} {X Y : Prop} (h : b = true → X) (k : b = false → Y) : Guarded b X Y := ⟨h, k⟩
theorem guarded_true {X Y : Prop} : Guarded true X Y = X := propext ⟨fun h => h.1 rfl, fun h => ⟨fun _ => h, fun e => by cases e⟩⟩
theorem guarded_false {X Y : Prop} : Guarded false X Y = Y := propext ⟨fun h => h.2 rfl, fun h => ⟨fun e => (by cases e), fun _ => h⟩⟩
def AWL (P : Program) (ops : List Oper) (Q : AEx → List AV → List AObj → Prop) : List Oper → List AV → List AObj → Prop
  | [], tm, H => Q .normal tm H
  | o :: rest, tm, H =>
    match aWanted ops tm o with
    | some b => Guarded b (match aStep P tm H o with
      | .next v H' => AWL P ops Q rest (aput tm o.dst v) H'
      | .pan x => Q (.pan x) tm H
      | .enter f args => ∃ out, ARun P f args H out ∧ (match out with
        | .ret v H' => AWL P ops Q rest (aput tm o.dst v) H'
        | .pan x H' => Q (.pan x) tm H')
      | .run => (aConcs tm o && notSelect o.op) = true ∧ ∃ r : Value, (∀ w, (execOp (aRho tm) o).run P w = .ok (.value r) w) ∧ AWL P ops Q rest (aput tm o.dst (.ofV r)) H)
      (AWL P ops Q rest (aput tm o.dst (.tup [])) H)
    | none => False
/-- What a walk sees: behind an operation's outcome. -/
def AWO (P : Program) (ops : List Oper) (Q : AEx → List AV → List AObj → Prop) (o : Oper) (rest : List Oper) (tm : List AV) : AOut → Prop
  | .ret v H' => AWL P ops Q rest (aput tm o.dst v) H'
  | .pan x H' => Q (.pan x) tm H'
def AWX (P : Program) (ops : List Oper) (Q : AEx → List AV → List AObj → Prop) (o : Oper) (rest : List Oper) (tm : List AV) (H : List AObj) : Prop :=
  (aConcs tm o && notSelect o.op) = true ∧ ∃ r : Value, (∀ w, (execOp (aRho tm) o).run P w = .ok (.value r) w) ∧ AWL P ops Q rest (aput tm o.dst (.ofV r)) H
def AWE (P : Program) (ops : List Oper) (Q : AEx → List AV → List AObj → Prop) (o : Oper) (rest : List Oper) (tm : List AV) (H : List AObj) (f : FuncId) (args : List AV) : Prop :=
  ∃ out, ARun P f args H out ∧ AWO P ops Q o rest tm out
def AWR (P : Program) (ops : List Oper) (Q : AEx → List AV → List AObj → Prop) (o : Oper) (rest : List Oper) (tm : List AV) (H : List AObj) : ARes → Prop
  | .next v H' => AWL P ops Q rest (aput tm o.dst v) H'
  | .pan x => Q (.pan x) tm H
  | .enter f args => AWE P ops Q o rest tm H f args
  | .run => AWX P ops Q o rest tm H
def AWG (P : Program) (ops : List Oper) (Q : AEx → List AV → List AObj → Prop) (o : Oper) (rest : List Oper) (tm : List AV) (H : List AObj) : Option Bool → Prop
  | some b => Guarded b (AWR P ops Q o rest tm H (aStep P tm H o)) (AWL P ops Q rest (aput tm o.dst (.tup [])) H)
  | none => False
section
variable {P : Program} {ops : List Oper} {Q : AEx → List AV → List AObj → Prop} {tm : List AV} {H : List AObj} {o : Oper} {rest : List Oper}
theorem awl_nil : AWL P ops Q [] tm H = Q .normal tm H := rfl
theorem awl_cons : AWL P ops Q (o :: rest) tm H = AWG P ops Q o rest tm H (aWanted ops tm o) := by
  unfold AWL AWG
  cases aWanted ops tm o with
  | none => rfl
  | some b =>
    simp only [AWR]
    cases aStep P tm H o with
    | enter f args =>
      simp only [AWE, AWO]
    | _ => rfl
theorem awg_true : AWG P ops Q o rest tm H (some true) = AWR P ops Q o rest tm H (aStep P tm H o) := guarded_true
theorem awg_false : AWG P ops Q o rest tm H (some false) = AWL P ops Q rest (aput tm o.dst (.tup [])) H := guarded_false
theorem awg_split {b : Bool} (h : b = true → AWG P ops Q o rest tm H (some true)) (k : b = false → AWG P ops Q o rest tm H (some false)) : AWG P ops Q o rest tm H (some b) := by
  cases b
  · exact k rfl
  · exact h rfl
theorem awr_next {v : AV} {H' : List AObj} : AWR P ops Q o rest tm H (.next v H') = AWL P ops Q rest (aput tm o.dst v) H' := rfl
theorem awr_pan {x : AV} : AWR P ops Q o rest tm H (.pan x) = Q (.pan x) tm H := rfl
theorem awr_enter {f : FuncId} {args : List AV} : AWR P ops Q o rest tm H (.enter f args) = AWE P ops Q o rest tm H f args := rfl
theorem awr_run : AWR P ops Q o rest tm H .run = AWX P ops Q o rest tm H := rfl
theorem awo_ret {v : AV} {H' : List AObj} : AWO P ops Q o rest tm (.ret v H') = AWL P ops Q rest (aput tm o.dst v) H' := rfl
theorem awo_pan {x : AV} {H' : List AObj} : AWO P ops Q o rest tm (.pan x H') = Q (.pan x) tm H' := rfl
theorem awe_intro {f : FuncId} {args : List AV} {out : AOut} (h : ARun P f args H out) (k : AWO P ops Q o rest tm out) : AWE P ops Q o rest tm H f args := ⟨out, h, k⟩
end
/-- A frame's state. -/
structure Sim (w0 : World) (B0 : BMap) (S0 : Nat → Prop) (H0 : List AObj) (D : List Deferred) (tm : List AV) (H : List AObj) (a : Act) (w : World) (B : BMap) (S : Nat → Prop) : Prop where
  entry : HRel w0 B0 S0 H0
  step : Step w0 B0 S0 H0 w B S H
  hrel : HRel w B S H
  tmps : ARelL w B S H tm a.tmps.toList
  defers : a.defers = D
def XRel (w : World) (B : BMap) (S : Nat → Prop) (H : List AObj) : AEx → Exit → Prop
  | .normal, .normal => True
  | .exit i, .exit j => i = j
  | .goto i, .goto j => i = j
  | .ret, .ret => True
  | .pan x, .panic c => ∃ v, c = [{ v := v, recovered := false }] ∧ ARel w B S H x v
  | _, _ => False
/-- What stands behind a piece of code. -/
def LiftQ (w0 : World) (B0 : BMap) (S0 : Nat → Prop) (H0 : List AObj) (D : List Deferred) (Q : AEx → List AV → List AObj → Prop) : Exit → Act → World → Prop :=
  fun e a w => ∃ x tm H B S, Q x tm H ∧ Sim w0 B0 S0 H0 D tm H a w B S ∧ XRel w B S H x e
def AWP (P : Program) (H0 : List AObj) (c : Code) (Q : AEx → List AV → List AObj → Prop) (tm : List AV) (H : List AObj) : Prop :=
  ∀ w0 B0 S0 D a w B S, Sim w0 B0 S0 H0 D tm H a w B S → c.wp P (LiftQ w0 B0 S0 H0 D Q) a w
section
variable {P : Program} {w0 : World} {B0 : BMap} {S0 : Nat → Prop} {H0 : List AObj} {D : List Deferred} {tm : List AV} {H : List AObj} {a : Act} {w : World} {B : BMap} {S : Nat → Prop}
theorem Sim.ev (s : Sim w0 B0 S0 H0 D tm H a w B S) (x : Operand) : ARel w B S H (aev tm x) (a.eval x) := by
  cases x with
  | tmp t =>
    simp only [aev, Act.eval]
    cases ht : tm[t]? with
    | none =>
      have hl : tm.length = a.tmps.size := by simpa using s.tmps.1
      have : a.tmps[t]? = none := by
        rw [List.getElem?_eq_none_iff] at ht
        rw [Array.getElem?_eq_none_iff]
        exact hl ▸ ht
      simp only [Option.getD_none, Array.getD_eq_getD_getElem?, this]
      exact .tup (vs := []) rfl (fun j c v h => by simp at h)
    | some v =>
      have hl : tm.length = a.tmps.size := by simpa using s.tmps.1
      have hlt : t < a.tmps.size := by
        have := (List.getElem?_eq_some_iff.1 ht).1
        exact hl ▸ this
      have hv : a.tmps.toList[t]? = some a.tmps[t] := by simp [hlt]
      have := s.tmps.2 t v _ ht hv
      simpa [Array.getD_eq_getD_getElem?, hlt] using this
  | const v => exact .ofV v
  | global g =>
    simp only [aev, Act.eval]
    cases hg : GTab.tab g with
    | none => exact .sc rfl
    | some cells => exact .rp (s.hrel.glob g cells hg)
  | func f => exact .fn (fs := []) (cs := []) rfl rfl (fun j c v h => by simp at h) (fun j c v h => by simp at h)
theorem Sim.mono {w' : World} {B' : BMap} {S' : Nat → Prop} {H' : List AObj} (s : Sim w0 B0 S0 H0 D tm H a w B S) (st : Step w B S H w' B' S' H') (hr : HRel w' B' S' H') :
    Sim w0 B0 S0 H0 D tm H' a w' B' S' := ⟨s.entry, s.step.trans st, hr, s.tmps.mono st, s.defers⟩
theorem Sim.put (s : Sim w0 B0 S0 H0 D tm H a w B S) (d : Option Tmp) {v : AV} {x : Value} (h : ARel w B S H v x) : Sim w0 B0 S0 H0 D (aput tm d v) H (a.put d x) w B S := by
  cases d with
  | none => exact s
  | some d =>
    refine ⟨s.entry, s.step, s.hrel, ?_, s.defers⟩
    simp only [aput, Act.put, Array.toList_setIfInBounds]
    exact s.tmps.set d h
theorem undef_rel : ARel w B S H (.tup []) undef := .tup (vs := []) rfl (fun j c v h => by simp at h)
theorem Sim.wanted (s : Sim w0 B0 S0 H0 D tm H a w B S) {ops : List Oper} {o : Oper} {b : Bool} (h : aWanted ops tm o = some b) : Region.wanted o (yielded ops.toArray a.tmps) = b := by
  unfold aWanted at h
  unfold Region.wanted
  cases hg : o.guard with
  | none => rw [hg] at h; simp only [Option.some.injEq] at h; exact h
  | some jw =>
    obtain ⟨j, want⟩ := jw
    rw [hg] at h
    simp only at h
    split at h
    · rename_i d hd
      simp only [yielded, List.getElem?_toArray, hd, Option.bind_some]
      have hlen : tm.length = a.tmps.size := by simpa using s.tmps.1
      have tmv : ∀ v, tm[d]? = some v → ∃ x, a.tmps[d]? = some x ∧ ARel w B S H v x := by
        intro v hv
        have hlt : d < a.tmps.size := by
          have := (List.getElem?_eq_some_iff.1 hv).1
          exact hlen ▸ this
        exact ⟨a.tmps[d], by simp [hlt], s.tmps.2 d v _ hv (by simp [hlt])⟩
      split at h
      · rename_i b' hb
        simp only [Option.some.injEq] at h
        obtain ⟨x, hx, hr⟩ := tmv _ hb
        rw [hx, sc_eq hr]
        simp only
        rw [← h]
        cases b' <;> cases want <;> rfl
      · rename_i hb
        simp only [Option.some.injEq] at h
        obtain ⟨x, hx, hr⟩ := tmv _ hb
        have : x = undef := by
          cases hr with
          | tup hl h =>
            rename_i vs
            have : vs = [] := by simpa using hl.symm
            subst this; rfl
        rw [hx, this]
        simp only [undef]
        rw [← h]; rfl
      · cases h
    · cases h
theorem aCall_pan {c : Call} {x : AV} : aCall P tm H c ≠ .pan x := by
  unfold aCall
  repeat' split
  all_goals (intro h; cases h)
theorem ofV_pan {o : Option AV} {x : AV} : ARes.ofV H o ≠ .pan x := by cases o <;> (intro h; cases h)
theorem eqStep_pan {op : BinOp} {t : TypeId} {a b x : AV} : aEqStep P H op t a b ≠ .pan x := by
  unfold aEqStep; (repeat' split) <;> (intro h; cases h)
theorem eqStep_enter {op : BinOp} {t : TypeId} {a b : AV} {f : FuncId} {xs : List AV} : aEqStep P H op t a b ≠ .enter f xs := by
  unfold aEqStep; (repeat' split) <;> (intro h; cases h)
theorem ofV_enter {o : Option AV} {f : FuncId} {xs : List AV} : ARes.ofV H o ≠ .enter f xs := by cases o <;> (intro h; cases h)
theorem enter_args (s : Sim w0 B0 S0 H0 D tm H a w B S) {o : Oper} {f : FuncId} {args : List AV} (hs : aStep P tm H o = .enter f args) (hcall : ∀ xs w, (callFunc f xs).run P w = .ok (.enter f xs) w) :
    ∃ vs : List Value, (execOp a.eval o).run P w = .ok (.enter f vs.toArray) w ∧ ARelL w B S H args vs := by
  cases hop : o.op <;> simp only [aStep, hop] at hs <;> try (cases hs; done)
  case call c =>
    unfold aCall at hs
    split at hs
    · (repeat' split at hs) <;> cases hs
    · (repeat' split at hs) <;> cases hs
    · (repeat' split at hs) <;> cases hs
    · (repeat' split at hs) <;> cases hs
    · rename_i g hg
      have hge := s.ev g
      split at hs
      · rename_i f' fi ca hv
        simp only [ARes.enter.injEq] at hs
        obtain ⟨rfl, rfl⟩ := hs
        rw [hv] at hge
        generalize hz : a.eval g = z at hge
        cases hge with
        | @fn _ _ _ fs cs hl1 hl2 h1 h2 =>
          have hargs := map_list s.ev c.args.toList
          refine ⟨fs ++ c.args.toList.map a.eval ++ cs, ?_, (ARelL.append (ARelL.append ⟨hl1, h1⟩ hargs) ⟨hl2, h2⟩)⟩
          have hfin : (fs.toArray ++ c.args.map a.eval) ++ cs.toArray = (fs ++ c.args.toList.map a.eval ++ cs).toArray := by
            apply Array.ext'; simp
          simp only [execOp, hop, resolve, hg, hz, Deferred.ofValue, Sem.run_bind, Sem.run_pure, Result.andThen_ok, invoke]
          rw [hfin, hcall]
      · cases hs
    · cases hs
  case unOp op t x => cases op <;> simp only at hs <;> (try (cases hs; done)) <;> (split at hs <;> cases hs)
  case makeMap t r => cases r <;> simp only at hs <;> (try (cases hs; done)) <;> ((repeat' split at hs) <;> cases hs)
  case slice t x lo hi mx => cases mx <;> simp only at hs <;> (try (cases hs; done)) <;> (split at hs <;> first | cases hs | exact absurd hs ofV_enter | exact absurd hs eqStep_enter)
  all_goals ((repeat' split at hs) <;> (first | cases hs | exact absurd hs ofV_enter | exact absurd hs eqStep_enter))
theorem step_pan (s : Sim w0 B0 S0 H0 D tm H a w B S) {o : Oper} {x : AV} (hs : aStep P tm H o = .pan x) : ∃ v, (execOp a.eval o).run P w = .halt (.panic v) w ∧ ARel w B S H x v := by
  cases hop : o.op <;> simp only [aStep, hop] at hs <;> try (cases hs; done)
  case panic y =>
    have hy := s.ev y
    split at hs
    · rename_i t v hv
      simp only [ARes.pan.injEq] at hs
      subst hs
      rw [hv] at hy
      refine ⟨.iface t v, ?_, .sc rfl⟩
      simp [execOp, hop, sc_eq hy, Instr.panic]
    · rename_i t z hv
      simp only [ARes.pan.injEq] at hs
      subst hs
      rw [hv] at hy
      generalize hq : a.eval y = q at hy
      cases hy with
      | @ifc _ _ v hz => exact ⟨_, by simp [execOp, hop, hq, Instr.panic], .ifc hz⟩
    · cases hs
  case call c => exact absurd hs aCall_pan
  case unOp op t x => cases op <;> simp only at hs <;> (try (cases hs; done)) <;> (split at hs <;> cases hs)
  case makeMap t r => cases r <;> simp only at hs <;> (try (cases hs; done)) <;> ((repeat' split at hs) <;> cases hs)
  case slice t x lo hi mx => cases mx <;> simp only at hs <;> (try (cases hs; done)) <;> (split at hs <;> first | cases hs | exact absurd hs ofV_pan | exact absurd hs eqStep_pan)
  all_goals ((repeat' split at hs) <;> (first | cases hs | exact absurd hs ofV_pan | exact absurd hs eqStep_pan))
theorem run_eq (s : Sim w0 B0 S0 H0 D tm H a w B S) {o : Oper} (hc : aConcs tm o = true) (hsel : notSelect o.op = true) : execOp a.eval o = execOp (aRho tm) o := by
  refine execOp_congr o ?_ (fun x hx => ?_)
  · intro cs b he; rw [he] at hsel; simp [notSelect] at hsel
  · have := List.all_eq_true.1 hc x (by simpa using hx)
    obtain ⟨u, hu⟩ := Option.isSome_iff_exists.1 this
    unfold aRho
    rw [hu]
    exact conc_eq (s.ev x) hu
theorem awl_sound {ops : List Oper} {Q : AEx → List AV → List AObj → Prop} : ∀ (l : List Oper) (tm : List AV) (H : List AObj) (a : Act) (w : World) (B : BMap) (S : Nat → Prop),
    AWL P ops Q l tm H → Sim w0 B0 S0 H0 D tm H a w B S → wpList P ops.toArray (LiftQ w0 B0 S0 H0 D Q) l a w
  | [], tm, H, a, w, B, S, h, s => ⟨.normal, tm, H, B, S, h, s, trivial⟩
  | o :: rest, tm, H, a, w, B, S, h, s => by
    have ih := awl_sound (ops := ops) (Q := Q) rest
    unfold AWL at h
    unfold wpList
    cases hw : aWanted ops tm o with
    | none => rw [hw] at h; exact h.elim
    | some b =>
      rw [hw] at h
      rw [s.wanted hw]
      cases b with
      | false =>
        simp only [guarded_false] at h
        simp only [Bool.false_eq_true, if_false]
        exact ih _ _ _ _ _ _ h (s.put o.dst undef_rel)
      | true =>
        simp only [guarded_true] at h
        simp only [if_true]
        refine .inl ?_
        cases hs : aStep P tm H o with
        | next v H' =>
          rw [hs] at h
          simp only at h
          obtain ⟨r, w', B', S', hrun, st, hr, hv⟩ := step_next s.hrel s.ev hs
          have s' := (s.mono st hr).put o.dst hv
          unfold Oper.wp
          rcases hrun with hrun | ⟨hrun, rfl⟩
          · rw [hrun]; exact ih _ _ _ _ _ _ h s'
          · rw [hrun]; exact ih _ _ _ _ _ _ h s'
        | pan x =>
          rw [hs] at h
          simp only at h
          have hp : ∃ v, (execOp a.eval o).run P w = .halt (.panic v) w ∧ ARel w B S H x v := by
            cases hop : o.op <;> simp only [aStep, hop] at hs <;> try (cases hs; done)
            case panic y =>
              have hy := s.ev y
              split at hs
              · rename_i t v hv
                simp only [ARes.pan.injEq] at hs
                subst hs
                rw [hv] at hy
                refine ⟨.iface t v, ?_, .sc rfl⟩
                simp [execOp, hop, sc_eq hy, Instr.panic]
              · rename_i t z hv
                simp only [ARes.pan.injEq] at hs
                subst hs
                rw [hv] at hy
                generalize hq : a.eval y = q at hy
                cases hy with
                | @ifc _ _ v hz => exact ⟨_, by simp [execOp, hop, hq, Instr.panic], .ifc hz⟩
              · cases hs
            case call c => exact absurd hs aCall_pan
            case unOp op t x => cases op <;> simp only at hs <;> (try (cases hs; done)) <;> (split at hs <;> cases hs)
            case makeMap t r => cases r <;> simp only at hs <;> (try (cases hs; done)) <;> ((repeat' split at hs) <;> cases hs)
            case slice t x lo hi mx => cases mx <;> simp only at hs <;> (try (cases hs; done)) <;> (split at hs <;> first | cases hs | exact absurd hs ofV_pan | exact absurd hs eqStep_pan)
            all_goals ((repeat' split at hs) <;> (first | cases hs | exact absurd hs ofV_pan | exact absurd hs eqStep_pan))
          obtain ⟨v, hrun, hx⟩ := hp
          unfold Oper.wp
          rw [hrun]
          exact ⟨.pan x, tm, H, B, S, h, s, v, rfl, hx⟩
        | enter f args =>
          rw [hs] at h
          simp only at h
          obtain ⟨out, ⟨hcall, hrunA⟩, hout⟩ := h
          obtain ⟨vs, hrun, hargs⟩ := enter_args s hs hcall
          unfold Oper.wp
          rw [hrun]
          refine (hrunA w B S vs s.hrel hargs).mono (fun e w' hew => ?_)
          obtain ⟨B', S', st, hr, he⟩ := hew
          cases out with
          | ret v H' =>
            cases e with
            | returned x => exact ih _ _ _ _ _ _ hout ((s.mono st hr).put o.dst he)
            | panicked c => exact he.elim
            | outgrown => exact he.elim
          | pan v H' =>
            cases e with
            | returned x => exact he.elim
            | panicked c => exact ⟨.pan v, tm, H', B', S', hout, s.mono st hr, he⟩
            | outgrown => exact he.elim
        | run =>
          rw [hs] at h
          simp only at h
          obtain ⟨hc, r, hrun, h⟩ := h
          simp only [Bool.and_eq_true] at hc
          have heq : execOp a.eval o = execOp (aRho tm) o := by
            refine execOp_congr o ?_ (fun x hx => ?_)
            · intro cs b hsel; rw [hsel] at hc; simp [notSelect] at hc
            · have := List.all_eq_true.1 hc.1 x (by simpa using hx)
              obtain ⟨u, hu⟩ := Option.isSome_iff_exists.1 this
              unfold aRho
              rw [hu]
              exact conc_eq (s.ev x) hu
          unfold Oper.wp
          rw [heq, hrun w]
          exact ih _ _ _ _ _ _ h (s.put o.dst (.ofV r))
end
end Go.Proofs.YtpfjlifneibhfaaGreat.AL
