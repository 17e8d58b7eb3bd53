/- Part 1 of the proofs of seat YtpfjlifneibhfaaGreat: what the texts behind it lean on (abstract memory, walks of functions, plain laws). -/
import Derived.Test.YtpfjlifneibhfaaGreatB0
import Derived.Deep.LoopGhost
import Derived.IntWalk
import Derived.Recover
import Derived.Scope
set_option linter.unusedSectionVars false
set_option linter.unusedSimpArgs false
set_option linter.unusedVariables false
set_option maxHeartbeats 100000000
set_option maxRecDepth 100000
namespace Go.Proofs.YtpfjlifneibhfaaGreat.AL
variable [G : GTab]
/-- All objects that are named lie below m. -/
def AV.under (m : Nat) : AV → Prop
  | .any | .pv _ | .rp _ => True
  | .p id _ => id < m
  | .os id _ _ _ => id < m
  | .op id _ _ _ => id < m
  | .agg cs => ∀ c ∈ cs, c.under m
  | .tup cs => ∀ c ∈ cs, c.under m
  | .fn _ fi ca => (∀ c ∈ fi, c.under m) ∧ ∀ c ∈ ca, c.under m
  | .ifc _ x => x.under m
  | .mp id => id < m
def AObj.under (m : Nat) : AObj → Prop
  | .dead => True
  | .cells _ cs => ∀ c ∈ cs, c.under m
  | .arr _ _ rows => ∀ r ∈ rows, ∀ c ∈ r, c.under m
  | .smap _ => True
  | .imap _ => True
mutual
def AV.toPV (H : List AObj) (m : Nat) : Nat → AV → Option PV
  | _, .pv x => some x
  | n + 1, .os id off len ext => match H[id]? with
    | some (.arr _ sz rows) => if rows.length = ext ∧ m ≤ id then (toPVs H m n ((rows.drop off).take len)).map (.rs sz) else none
    | _ => none
  | _, _ => none
def AV.toPVs (H : List AObj) (m : Nat) : Nat → List (List AV) → Option (List (List PV))
  | _, [] => some []
  | n, r :: rs => match AV.toPVr H m n r, toPVs H m n rs with
    | some x, some xs => some (x :: xs)
    | _, _ => none
def AV.toPVr (H : List AObj) (m : Nat) : Nat → List AV → Option (List PV)
  | _, [] => some []
  | n, a :: asx => match AV.toPV H m n a, toPVr H m n asx with
    | some x, some xs => some (x :: xs)
    | _, _ => none
end
/-- What is left of a value when the objects from m on fall away. -/
def AV.low (H : List AObj) (m n : Nat) : AV → AV
  | .any => .any
  | .pv x => .pv x
  | .rp c => .rp c
  | .p id off => if id < m then .p id off else match H[id]? with
    | some (.cells _ cs) => match AV.toPVr H m n cs with
      | some ps => .rp (ps.drop off)
      | none => .any
    | _ => .any
  | .os id off len ext => if id < m then .os id off len ext else match AV.toPV H m n (.os id off len ext) with
    | some x => .pv x
    | none => .any
  | .op id i off ext => if id < m then .op id i off ext else .any
  | .agg cs => .agg (cs.map fun c => c.low H m n)
  | .tup cs => .tup (cs.map fun c => c.low H m n)
  | .fn f fi ca => .fn f (fi.map fun c => c.low H m n) (ca.map fun c => c.low H m n)
  | .ifc t x => .ifc t (x.low H m n)
  | .mp id => if id < m then .mp id else .any
section
variable {w : World} {B : BMap} {S : Nat → Prop} {H : List AObj}
theorem ARel.under {a : AV} {v : Value} (h : ARel w B S H a v) : a.under H.length := by
  have lists : ∀ {cs : List AV} {vs : List Value}, cs.length = vs.length → (∀ (j : Nat) (c : AV) (v : Value), cs[j]? = some c → vs[j]? = some v → c.under H.length) → ∀ c ∈ cs, c.under H.length := by
    intro cs vs hl h c hc
    obtain ⟨j, hj⟩ := List.getElem?_of_mem hc
    have hlt := (List.getElem?_eq_some_iff.1 hj).1
    exact h j c vs[j] hj (List.getElem?_eq_getElem (by omega))
  induction h with
  | any | pv | rp => simp [AV.under]
  | p hb hid hk => simpa [AV.under] using hid
  | os hid h1 hl => simpa [AV.under] using hid
  | op hid h1 hl => simpa [AV.under] using hid
  | agg hl h1 h ih => simp only [AV.under]; exact lists hl ih
  | tup hl h ih => simp only [AV.under]; exact lists hl ih
  | fn hf hc h k ih ik => simp only [AV.under]; exact ⟨lists hf ih, lists hc ik⟩
  | ifc h ih => simpa [AV.under] using ih
  | mp hb hid hk => simpa [AV.under] using hid
theorem ARelL.under {cs : List AV} {vs : List Value} (h : ARelL w B S H cs vs) : ∀ c ∈ cs, c.under H.length := by
  intro c hc
  obtain ⟨j, hj⟩ := List.getElem?_of_mem hc
  have hlt := (List.getElem?_eq_some_iff.1 hj).1
  have hl := h.1
  exact (h.2 j c vs[j] hj (List.getElem?_eq_getElem (by omega))).under
theorem HRel.under (hr : HRel w B S H) {id : Nat} {o : AObj} (h : H[id]? = some o) : o.under H.length := by
  have ho := hr.obj id o h
  cases o with
  | dead => trivial
  | cells t cs => obtain ⟨b, c, vs, h1, h2, h3, h4⟩ := ho; exact h3.under
  | arr t sz rows =>
    obtain ⟨h0, hp, h⟩ := ho
    rcases h with ⟨_, rfl⟩ | ⟨b, cap, cur, h1, h2, h3, h4, h5, h6, h7⟩
    · intro r hr; cases hr
    · intro r hr c hc
      exact h7.under c (List.mem_flatten.2 ⟨r, hr, hc⟩)
  | smap es => trivial
  | imap es => trivial
/-- The blocks of objects from m on are written no more. -/
def Rest (B : BMap) (S : Nat → Prop) (H : List AObj) (m : Nat) : Nat → Prop := fun b => S b ∨ ∃ i c, m ≤ i ∧ i < H.length ∧ H[i]? ≠ some .dead ∧ B i = some (b, c)
theorem PRel.rest {m : Nat} {p : PV} {v : Value} (h : PRel w S p v) : PRel w (Rest B S H m) p v := h.mono (fun b hb => .inl hb) (fun _ _ => rfl)
theorem ARel.low_same {m : Nat} (hm : m ≤ H.length) {a : AV} {v : Value} (h : ARel w B S H a v) (hb : a.under m) : ARel w B (Rest B S H m) (H.take m) a v := by
  have get : ∀ id, id < m → (H.take m)[id]? = H[id]? := fun id hid => by rw [List.getElem?_take, if_pos hid]
  have hlen : (H.take m).length = m := by simp; omega
  induction h with
  | any => exact .any
  | pv h => exact .pv h.rest
  | p h1 hid hk =>
    simp only [AV.under] at hb
    exact .p h1 (by omega) (fun t sz rows => by rw [get _ hb]; exact hk t sz rows)
  | mp h1 hid hk =>
    simp only [AV.under] at hb
    exact .mp h1 (by omega) (fun t sz rows => by rw [get _ hb]; exact hk t sz rows)
  | os hid h1 hl =>
    simp only [AV.under] at hb
    exact .os (by omega) h1 (fun t sz rows he => hl t sz rows (by rw [← get _ hb]; exact he))
  | op hid h1 hl =>
    simp only [AV.under] at hb
    exact .op (by omega) h1 (fun t sz rows he => hl t sz rows (by rw [← get _ hb]; exact he))
  | rp h =>
    refine .rp (fun j p hj => ?_)
    obtain ⟨h1, u, h2, h3⟩ := h j p hj
    exact ⟨.inl h1, u, h2, h3.rest⟩
  | agg hl h1 h ih =>
    simp only [AV.under] at hb
    exact .agg hl h1 (fun j c v hc hv => ih j c v hc hv (hb c (List.mem_of_getElem? hc)))
  | tup hl h ih =>
    simp only [AV.under] at hb
    exact .tup hl (fun j c v hc hv => ih j c v hc hv (hb c (List.mem_of_getElem? hc)))
  | fn hf hc h k ih ik =>
    simp only [AV.under] at hb
    exact .fn hf hc (fun j c v hc hv => ih j c v hc hv (hb.1 c (List.mem_of_getElem? hc))) (fun j c v hc hv => ik j c v hc hv (hb.2 c (List.mem_of_getElem? hc)))
  | ifc h ih =>
    simp only [AV.under] at hb
    exact .ifc (ih hb)
theorem toPVr_rel {m n : Nat} (ih : ∀ {a : AV} {v : Value} {p : PV}, ARel w B S H a v → a.toPV H m n = some p → PRel w (Rest B S H m) p v) :
    ∀ {asx : List AV} {ps : List PV}, AV.toPVr H m n asx = some ps → ps.length = asx.length ∧ ∀ (j : Nat) (p : PV), ps[j]? = some p → ∃ a, asx[j]? = some a ∧ ∀ v, ARel w B S H a v → PRel w (Rest B S H m) p v
  | [], ps, h => by
    simp only [AV.toPVr, Option.some.injEq] at h
    subst h
    exact ⟨rfl, fun j p hj => by simp at hj⟩
  | a :: asx, ps, h => by
    simp only [AV.toPVr] at h
    split at h
    · rename_i x xs h1 h2
      simp only [Option.some.injEq] at h
      subst h
      obtain ⟨g1, g2⟩ := toPVr_rel ih h2
      refine ⟨by simp [g1], fun j p hj => ?_⟩
      cases j with
      | zero => simp only [List.getElem?_cons_zero, Option.some.injEq] at hj; subst hj; exact ⟨a, rfl, fun v hv => ih hv h1⟩
      | succ j => simp only [List.getElem?_cons_succ] at hj ⊢; exact g2 j p hj
    · cases h
theorem toPVs_get {m n : Nat} : ∀ {rows : List (List AV)} {prows : List (List PV)}, AV.toPVs H m n rows = some prows → prows.length = rows.length ∧ ∀ (i : Nat) (r : List PV), prows[i]? = some r → ∃ row, rows[i]? = some row ∧ AV.toPVr H m n row = some r
  | [], prows, h => by
    simp only [AV.toPVs, Option.some.injEq] at h
    subst h
    exact ⟨rfl, fun j p hj => by simp at hj⟩
  | a :: asx, ps, h => by
    simp only [AV.toPVs] at h
    split at h
    · rename_i x xs h1 h2
      simp only [Option.some.injEq] at h
      subst h
      obtain ⟨g1, g2⟩ := toPVs_get h2
      refine ⟨by simp [g1], fun j p hj => ?_⟩
      cases j with
      | zero => simp only [List.getElem?_cons_zero, Option.some.injEq] at hj; subst hj; exact ⟨a, rfl, h1⟩
      | succ j => simp only [List.getElem?_cons_succ] at hj ⊢; exact g2 j p hj
    · cases h
theorem toPV_rel (hr : HRel w B S H) {m : Nat} : ∀ (n : Nat) {a : AV} {v : Value} {p : PV}, ARel w B S H a v → a.toPV H m n = some p → PRel w (Rest B S H m) p v := by
  intro n
  induction n with
  | zero =>
    intro a v p h hp
    cases h <;> simp [AV.toPV] at hp
    subst hp
    rename_i h
    exact h.rest
  | succ n ih =>
    intro a v p h hp
    cases h with
    | any | p | op | rp | agg | tup | fn | ifc | mp => simp [AV.toPV] at hp
    | pv h => simp only [AV.toPV, Option.some.injEq] at hp; subst hp; exact h.rest
    | @os id off len ext _ hid h1 hl =>
      simp only [AV.toPV] at hp
      split at hp
      · rename_i t sz rows hx
        split at hp
        · rename_i hc
          obtain ⟨hc, hmid⟩ := hc
          simp only [Option.map_eq_some_iff] at hp
          obtain ⟨prows, hp, rfl⟩ := hp
          obtain ⟨pl, pg⟩ := toPVs_get hp
          have hos := (hl _ _ _ hx).2 hc
          obtain ⟨hol, hsz, hob⟩ := hr.obj id _ hx
          unfold OsRel at hos
          have hlen : ((rows.drop off).take len).length = len := by simp; omega
          rw [hlen] at pl
          cases hB : B id with
          | none =>
            rw [hB] at hos
            obtain ⟨_, _, rfl, rfl⟩ := hos
            have : prows = [] := List.eq_nil_of_length_eq_zero pl
            subst this
            exact .rs (rows := []) (fun _ _ => undef) (Nat.le_refl _) (Nat.zero_le _) hsz (fun _ => rfl) (by simp) (by simp) (by simp)
          | some bc =>
            obtain ⟨b, cap⟩ := bc
            rw [hB] at hos
            obtain ⟨h3, h4, o', rfl, h5, h6⟩ := hos
            obtain ⟨_, _, cur, g1, g2, g3, g4, g5, g6⟩ := hr.arr hx hB
            have hSb : Rest B S H m b := .inr ⟨id, cap, hmid, hid, by rw [hx]; simp, hB⟩
            have rowlen : ∀ i r, prows[i]? = some r → r.length = sz ∧ i < len ∧ ∃ row, rows[off + i]? = some row ∧ ∀ (j : Nat) (p : PV), r[j]? = some p → ∃ a, row[j]? = some a ∧ ∀ v, ARel w B S H a v → PRel w (Rest B S H m) p v := by
              intro i r hi
              obtain ⟨row, h7, h8⟩ := pg i r hi
              have hil : i < len := by rw [← hlen]; exact (List.getElem?_eq_some_iff.1 h7).1
              rw [List.getElem?_take, if_pos hil, List.getElem?_drop] at h7
              have hrl := hol row (List.mem_of_getElem? h7)
              obtain ⟨q1, q2⟩ := toPVr_rel (m := m) (n := n) ih h8
              exact ⟨by omega, hil, row, h7, q2⟩
            have cell : ∀ i r j p, prows[i]? = some r → r[j]? = some p → ∃ u, w.cell? ⟨b, (off + i) * sz + j, none⟩ = some u ∧ PRel w (Rest B S H m) p u := by
              intro i r j p hi hj
              obtain ⟨q0, hil, row, h7, q2⟩ := rowlen i r hi
              have hjs : j < sz := by rw [← q0]; exact (List.getElem?_eq_some_iff.1 hj).1
              obtain ⟨a, ha, hrel⟩ := q2 j p hj
              have hfl : rows.flatten[(off + i) * sz + j]? = some a := by rw [flatten_get hol _ _ hjs, h7]; exact ha
              have hfl' : (off + i) * sz + j < rows.length * sz := by rw [← flatten_len hol]; exact (List.getElem?_eq_some_iff.1 hfl).1
              have hcl : rows.length * sz ≤ cur.length := by rw [g4]; exact Nat.mul_le_mul_right _ g2
              refine ⟨cur[(off + i) * sz + j], ?_, hrel _ (g6.2 _ a _ hfl ?_)⟩
              · rw [cell_of_row w b _ _ t _ g1]; simp [show (off + i) * sz + j < cur.length by omega]
              · rw [List.getElem?_take, if_pos hfl', List.getElem?_eq_getElem]
            rw [← pl]
            refine .rs (fun i j => (w.cell? ⟨b, (off + i) * sz + j, none⟩).getD undef) (by omega) (by omega) hsz (fun h => by cases h) ?_ ?_ ?_
            · intro r hr
              obtain ⟨i, hi⟩ := List.getElem?_of_mem hr
              exact (rowlen i r hi).1
            · intro i r j p hi hj
              obtain ⟨u, hu, _⟩ := cell i r j p hi hj
              have := (rowlen i r hi).2.1
              refine ⟨_, rfl, hSb, ?_⟩
              rw [hu, add_off, h5 (by omega)]
              simp only [Option.getD_some]
              rw [← hu]
              congr 2
              rw [Nat.add_mul]; omega
            · intro i r j p hi hj
              obtain ⟨u, hu, hrel⟩ := cell i r j p hi hj
              rw [hu]; exact hrel
        · cases hp
      · cases hp
theorem low_rel (hr : HRel w B S H) {m n : Nat} (hm : m ≤ H.length) {a : AV} {v : Value} (h : ARel w B S H a v) : ARel w B (Rest B S H m) (H.take m) (a.low H m n) v := by
  have hsame := fun (hb : a.under m) => h.low_same hm hb
  have lists : ∀ {cs : List AV} {vs : List Value}, (∀ (j : Nat) (c : AV) (v : Value), cs[j]? = some c → vs[j]? = some v → ARel w B (Rest B S H m) (H.take m) (c.low H m n) v) →
      ∀ (j : Nat) (c : AV) (v : Value), (cs.map fun c => c.low H m n)[j]? = some c → vs[j]? = some v → ARel w B (Rest B S H m) (H.take m) c v := by
    intro cs vs h j c v hc hv
    simp only [List.getElem?_map, Option.map_eq_some_iff] at hc
    obtain ⟨c', hc, rfl⟩ := hc
    exact h j c' v hc hv
  induction h with
  | any => simp only [AV.low]; exact .any
  | pv h => simp only [AV.low]; exact .pv h.rest
  | @p id off b c h1 hid hk =>
    simp only [AV.low]
    split
    · exact (ARel.p h1 hid hk).low_same hm (by simpa [AV.under])
    · rename_i hmid
      split
      · rename_i t cs hx
        split
        · rename_i ps hps
          obtain ⟨b', c', vs, g1, g2, g3, g4⟩ := hr.obj id _ hx
          rw [h1] at g1
          simp only [Option.some.injEq, Prod.mk.injEq] at g1
          obtain ⟨rfl, rfl⟩ := g1
          obtain ⟨q1, q2⟩ := toPVr_rel (m := m) (n := n) (fun ha hp => toPV_rel hr n ha hp) hps
          refine .rp (fun j p hj => ⟨.inr ⟨id, c, by omega, hid, by rw [hx]; simp, h1⟩, ?_⟩)
          rw [List.getElem?_drop] at hj
          obtain ⟨a, ha, hrel⟩ := q2 _ p hj
          have hlt : off + j < vs.length := by rw [← g3.1]; exact (List.getElem?_eq_some_iff.1 ha).1
          refine ⟨vs[off + j], ?_, hrel _ (g3.2 _ a _ ha (List.getElem?_eq_getElem hlt))⟩
          rw [add_off, cell_of_row w b _ _ t _ g2]
          simp [hlt]
        · exact .any
      · exact .any
  | os hid h1 hl =>
    simp only [AV.low]
    split
    · exact (ARel.os hid h1 hl).low_same hm (by simpa [AV.under])
    · split
      · rename_i x hx; exact .pv (toPV_rel hr n (.os hid h1 hl) hx)
      · exact .any
  | op hid h1 hl =>
    simp only [AV.low]
    split
    · exact (ARel.op hid h1 hl).low_same hm (by simpa [AV.under])
    · exact .any
  | rp h => simp only [AV.low]; exact (ARel.rp h).low_same hm (by simp [AV.under])
  | agg hl h1 h ih =>
    simp only [AV.low]
    exact .agg (by simpa using hl) h1 (lists (fun j c v hc hv => ih j c v hc hv (fun hb => (h j c v hc hv).low_same hm hb)))
  | tup hl h ih =>
    simp only [AV.low]
    exact .tup (by simpa using hl) (lists (fun j c v hc hv => ih j c v hc hv (fun hb => (h j c v hc hv).low_same hm hb)))
  | fn hf hc h k ih ik =>
    simp only [AV.low]
    exact .fn (by simpa using hf) (by simpa using hc) (lists (fun j c v hc hv => ih j c v hc hv (fun hb => (h j c v hc hv).low_same hm hb))) (lists (fun j c v hc hv => ik j c v hc hv (fun hb => (k j c v hc hv).low_same hm hb)))
  | ifc h ih => simp only [AV.low]; exact .ifc (ih (fun hb => h.low_same hm hb))
  | mp h1 hid hk =>
    simp only [AV.low]
    split
    · exact (ARel.mp h1 hid hk).low_same hm (by simpa [AV.under])
    · exact .any
/-- The objects from m on fall away. -/
theorem drop_rel (hr : HRel w B S H) {m : Nat} (hm : m ≤ H.length) (hu : ∀ id o, id < m → H[id]? = some o → o.under m) :
    HRel w B (Rest B S H m) (H.take m) := by
  have get : ∀ id, id < m → (H.take m)[id]? = H[id]? := fun id hid => by rw [List.getElem?_take, if_pos hid]
  have hlen : (H.take m).length = m := by simp; omega
  have lists : ∀ {cs : List AV} {vs : List Value}, ARelL w B S H cs vs → (∀ c ∈ cs, c.under m) → ARelL w B (Rest B S H m) (H.take m) cs vs := by
    intro cs vs h hc
    exact ⟨h.1, fun j c v h1 h2 => (h.2 j c v h1 h2).low_same hm (hc c (List.mem_of_getElem? h1))⟩
  refine ⟨?_, ?_, ?_, ?_, hr.glob.mono (fun _ h => .inl h) (fun _ _ => rfl)⟩
  · intro id o h
    have hid : id < m := by have := (List.getElem?_eq_some_iff.1 h).1; omega
    rw [get id hid] at h
    have ho := hr.obj id o h
    have hu' := hu id o hid h
    cases o with
    | dead => trivial
    | cells t cs =>
      obtain ⟨b, c, vs, h1, h2, h3, h4⟩ := ho
      exact ⟨b, c, vs, h1, h2, lists h3 hu', h4⟩
    | arr t sz rows =>
      obtain ⟨h0, hp, h⟩ := ho
      refine ⟨h0, hp, ?_⟩
      rcases h with h | ⟨b, cap, cur, h1, h2, h3, h4, h5, h6, h7⟩
      · exact .inl h
      · exact .inr ⟨b, cap, cur, h1, h2, h3, h4, h5, h6, lists h7 (fun c hc => by
          obtain ⟨r, hr, hc⟩ := List.mem_flatten.1 hc
          exact hu' r hr c hc)⟩
    | smap es => exact ho
    | imap es => exact ho
  · intro i j b c d hi hj hdi hdj
    rw [hlen] at hi hj
    rw [get i hi] at hdi
    rw [get j hj] at hdj
    exact hr.inj i j b c d (by omega) (by omega) hdi hdj
  · intro i b c hi hd hB hs
    rw [hlen] at hi
    rw [get i hi] at hd
    rcases hs with hs | ⟨j, d, h1, h2, h3, h4⟩
    · exact hr.sep i b c (by omega) hd hB hs
    · have := hr.inj i j b c d (by omega) h2 hd h3 hB h4
      omega
  · intro b hb
    rcases hb with hb | ⟨j, d, h1, h2, h3, h4⟩
    · exact hr.bound b hb
    · exact hr.lt h2 h3 h4
end
end Go.Proofs.YtpfjlifneibhfaaGreat.AL
namespace Go.Proofs.YtpfjlifneibhfaaGreat.AL
variable [G : GTab]
section
variable {P : Program} {H0 : List AObj} {Q : AEx → List AV → List AObj → Prop} {tm : List AV} {H : List AObj}
theorem awp_region {id : Nat} {l : List Oper} (h : AWL P l Q l tm H) : AWP P H0 (.region id l.toArray false) Q tm H :=
  fun w0 B0 S0 D a w B S s => wp_region_lit (awl_sound l tm H a w B S h s)
def AEx.thn (next : List AV → List AObj → Prop) (Q : AEx → List AV → List AObj → Prop) : AEx → List AV → List AObj → Prop
  | .normal, tm, H => next tm H
  | e, tm, H => Q e tm H
theorem lift_mono {w0 : World} {B0 : BMap} {S0 : Nat → Prop} {D : List Deferred} {Q Q' : AEx → List AV → List AObj → Prop} (hq : ∀ e tm H, Q e tm H → Q' e tm H) {e : Exit} {a : Act} {w : World}
    (h : LiftQ w0 B0 S0 H0 D Q e a w) : LiftQ w0 B0 S0 H0 D Q' e a w := by
  obtain ⟨x, tm, H, B, S, h1, h2, h3⟩ := h
  exact ⟨x, tm, H, B, S, hq _ _ _ h1, h2, h3⟩
theorem awp_mono {c : Code} {Q' : AEx → List AV → List AObj → Prop} (h : AWP P H0 c Q tm H) (hq : ∀ e tm H, Q e tm H → Q' e tm H) : AWP P H0 c Q' tm H :=
  fun w0 B0 S0 D a w B S s => wp_mono (h w0 B0 S0 D a w B S s) (fun e a w hh => lift_mono hq hh)
theorem awp_seq {x y : Code} (h : AWP P H0 x (AEx.thn (AWP P H0 y Q) Q) tm H) : AWP P H0 (.seq x y) Q tm H := by
  intro w0 B0 S0 D a w B S s
  refine wp_seq (wp_mono (h w0 B0 S0 D a w B S s) ?_)
  rintro e a' w' ⟨x, tm', H', B', S', hq, s', hx⟩
  cases x <;> cases e <;> simp only [XRel] at hx <;> try (exact hx.elim)
  case normal.normal => exact hq w0 B0 S0 D a' w' B' S' s'
  case exit.exit => exact ⟨_, _, _, _, _, hq, s', hx⟩
  case goto.goto => exact ⟨_, _, _, _, _, hq, s', hx⟩
  case ret.ret => exact ⟨_, _, _, _, _, hq, s', trivial⟩
  case pan.panic => exact ⟨_, _, _, _, _, hq, s', hx⟩
theorem awp_cond {c : Operand} {x y : Code} {b : Bool} (hc : aev tm c = .pv (.sc (.bool b))) (h1 : b = true → AWP P H0 x Q tm H) (h2 : b = false → AWP P H0 y Q tm H) :
    AWP P H0 (.cond c x y) Q tm H := by
  intro w0 B0 S0 D a w B S s
  have hv := s.ev c
  rw [hc] at hv
  refine wp_cond_split (t := b) (sc_eq hv) (fun hb => h1 hb w0 B0 S0 D a w B S s) (fun hb => h2 hb w0 B0 S0 D a w B S s)
def AEx.inBlock (id : Nat) (Q : AEx → List AV → List AObj → Prop) : AEx → List AV → List AObj → Prop
  | .exit j, tm, H => if j = id then Q .normal tm H else Q (.exit j) tm H
  | e, tm, H => Q e tm H
theorem awp_block {id : Nat} {c : Code} (h : AWP P H0 c (AEx.inBlock id Q) tm H) : AWP P H0 (.block id c) Q tm H := by
  intro w0 B0 S0 D a w B S s
  refine wp_block (wp_mono (h w0 B0 S0 D a w B S s) ?_)
  rintro e a' w' ⟨x, tm', H', B', S', hq, s', hx⟩
  cases x <;> cases e <;> simp only [XRel] at hx <;> try (exact hx.elim)
  case normal.normal => exact ⟨.normal, _, _, _, _, hq, s', trivial⟩
  case exit.exit i j =>
    subst hx
    simp only [AEx.inBlock] at hq
    simp only [Exit.inBlock]
    split
    · rename_i e; rw [if_pos e] at hq; exact ⟨.normal, _, _, _, _, hq, s', trivial⟩
    · rename_i e; rw [if_neg e] at hq; exact ⟨.exit i, _, _, _, _, hq, s', rfl⟩
  case goto.goto => exact ⟨_, _, _, _, _, hq, s', hx⟩
  case ret.ret => exact ⟨.ret, _, _, _, _, hq, s', trivial⟩
  case pan.panic => exact ⟨_, _, _, _, _, hq, s', hx⟩
theorem awp_exit {id : Nat} (h : Q (.exit id) tm H) : AWP P H0 (.exit id) Q tm H :=
  fun w0 B0 S0 D a w B S s => wp_exit ⟨.exit id, tm, H, B, S, h, s, rfl⟩
theorem awp_ret (h : Q .ret tm H) : AWP P H0 .ret Q tm H :=
  fun w0 B0 S0 D a w B S s => wp_ret ⟨.ret, tm, H, B, S, h, s, trivial⟩
theorem awp_skip (h : Q .normal tm H) : AWP P H0 .skip Q tm H :=
  fun w0 B0 S0 D a w B S s => wp_skip ⟨.normal, tm, H, B, S, h, s, trivial⟩
theorem awp_label {l : Nat} (h : Q .normal tm H) : AWP P H0 (.label l) Q tm H :=
  fun w0 B0 S0 D a w B S s => wp_label ⟨.normal, tm, H, B, S, h, s, trivial⟩
/-! ### states told more weakly -/
def Wk (H0 : List AObj) (tm : List AV) (H : List AObj) (tm' : List AV) (H' : List AObj) : Prop :=
  ∀ w0 B0 S0 D a w B S, Sim w0 B0 S0 H0 D tm H a w B S → ∃ B' S', Sim w0 B0 S0 H0 D tm' H' a w B' S'
theorem Wk.refl : Wk H0 tm H tm H := fun w0 B0 S0 D a w B S s => ⟨B, S, s⟩
theorem Wk.trans {tm' tm'' : List AV} {H' H'' : List AObj} (h : Wk H0 tm H tm' H') (k : Wk H0 tm' H' tm'' H'') : Wk H0 tm H tm'' H'' :=
  fun w0 B0 S0 D a w B S s => let ⟨B', S', s'⟩ := h w0 B0 S0 D a w B S s; k w0 B0 S0 D a w B' S' s'
theorem awp_wk {c : Code} {tm' : List AV} {H' : List AObj} (h : Wk H0 tm H tm' H') (k : AWP P H0 c Q tm' H') : AWP P H0 c Q tm H :=
  fun w0 B0 S0 D a w B S s => let ⟨B', S', s'⟩ := h w0 B0 S0 D a w B S s; k w0 B0 S0 D a w B' S' s'
/-- Whatever is told by a is told by b. -/
def Cv (a b : AV) : Prop := ∀ w B S H v, ARel w B S H a v → ARel w B S H b v
theorem Cv.refl (a : AV) : Cv a a := fun _ _ _ _ _ h => h
theorem Cv.of {a b : AV} (h : b = a) : Cv a b := by subst h; exact Cv.refl _
theorem Cv.any (a : AV) : Cv a .any := fun _ _ _ _ _ _ => .any
theorem Cv.trans {a b c : AV} (h : Cv a b) (k : Cv b c) : Cv a c := fun w B S H v x => k w B S H v (h w B S H v x)
theorem Cv.nil {sz : Nat} (h : 0 < sz) : Cv (.pv (.sc (.slice none 0 0))) (.pv (.rs sz [])) := by
  intro w B S H v hv
  have : v = .slice none 0 0 := sc_eq hv
  subst this
  exact .pv (.rs (rows := []) (fun _ _ => undef) (Nat.le_refl _) (Nat.zero_le _) h (fun _ => rfl) (by simp) (by simp) (by simp))
def CvL : List AV → List AV → Prop
  | [], [] => True
  | a :: asx, b :: bs => Cv a b ∧ CvL asx bs
  | _, _ => False
theorem CvL.get : ∀ {asx bs : List AV}, CvL asx bs → asx.length = bs.length ∧ ∀ (j : Nat) (b : AV), bs[j]? = some b → ∃ a, asx[j]? = some a ∧ Cv a b
  | [], [], _ => ⟨rfl, fun j b h => by simp at h⟩
  | [], _ :: _, h => h.elim
  | _ :: _, [], h => h.elim
  | a :: asx, b :: bs, h => by
    obtain ⟨h1, h2⟩ := h
    obtain ⟨g1, g2⟩ := CvL.get h2
    refine ⟨by simp [g1], fun j c hj => ?_⟩
    cases j with
    | zero => simp only [List.getElem?_cons_zero, Option.some.injEq] at hj; subst hj; exact ⟨a, rfl, h1⟩
    | succ j => simp only [List.getElem?_cons_succ] at hj ⊢; exact g2 j c hj
theorem Cv.tup {asx bs : List AV} (h : CvL asx bs) : Cv (.tup asx) (.tup bs) := by
  intro w B S H v hv
  obtain ⟨h1, h2⟩ := h.get
  cases hv with
  | @tup _ vs hl hr =>
    refine .tup (by omega) (fun j c v hc hv => ?_)
    obtain ⟨a, ha, hc'⟩ := h2 j c hc
    exact hc' _ _ _ _ _ (hr j a v ha hv)
theorem Cv.agg {asx bs : List AV} (h : CvL asx bs) : Cv (.agg asx) (.agg bs) := by
  intro w B S H v hv
  obtain ⟨h1, h2⟩ := h.get
  cases hv with
  | @agg _ vs hl h0 hr =>
    refine .agg (by omega) h0 (fun j c v hc hv => ?_)
    obtain ⟨a, ha, hc'⟩ := h2 j c hc
    exact hc' _ _ _ _ _ (hr j a v ha hv)
/-- Slots forgotten. -/
def Fgt : List AV → List AV → Prop
  | [], [] => True
  | a :: asx, b :: bs => (b = .any ∨ b = a ∨ Cv a b) ∧ Fgt asx bs
  | _, _ => False
theorem Fgt.rel {w : World} {B : BMap} {S : Nat → Prop} : ∀ {asx bs : List AV} {vs : List Value}, Fgt asx bs → ARelL w B S H asx vs → ARelL w B S H bs vs
  | [], [], _, _, h => h
  | [], _ :: _, _, h, _ => h.elim
  | _ :: _, [], _, h, _ => h.elim
  | a :: asx, b :: bs, [], _, h => by have := h.1; simp at this
  | a :: asx, b :: bs, v :: vs, h, k => by
    refine ARelL.cons ?_ (h.2.rel ⟨by have := k.1; simpa using this, fun j c u hc hu => k.2 (j + 1) c u (by simpa using hc) (by simpa using hu)⟩)
    rcases h.1 with rfl | rfl | hc
    · exact .any
    · exact k.2 0 _ v rfl rfl
    · exact hc _ _ _ _ _ (k.2 0 _ v rfl rfl)
theorem Wk.fgt {tm' : List AV} (h : Fgt tm tm') : Wk H0 tm H tm' H :=
  fun w0 B0 S0 D a w B S s => ⟨B, S, s.entry, s.step, s.hrel, h.rel s.tmps, s.defers⟩
theorem under_mono {m n : Nat} (h : m ≤ n) : ∀ {a : AV}, a.under m → a.under n := by
  intro a
  apply AV.rec (motive_1 := fun a => a.under m → a.under n) (motive_2 := fun asx => (∀ c ∈ asx, c.under m) → ∀ c ∈ asx, c.under n)
  · intro _; simp [AV.under]
  · intro x _; simp [AV.under]
  · intro id off; simp only [AV.under]; omega
  · intro id off len ext; simp only [AV.under]; omega
  · intro id i off ext; simp only [AV.under]; omega
  · intro c _; simp [AV.under]
  · intro cs ih; simp only [AV.under]; exact ih
  · intro cs ih; simp only [AV.under]; exact ih
  · intro f fi ca ih1 ih2; simp only [AV.under]; exact fun hh => ⟨ih1 hh.1, ih2 hh.2⟩
  · intro t x ih; simp only [AV.under]; exact ih
  · intro id; simp only [AV.under]; omega
  · intro _ c hc; cases hc
  · intro a asx ih1 ih2 hh c hc
    rcases List.mem_cons.1 hc with rfl | hc
    · exact ih1 (hh _ (by simp))
    · exact ih2 (fun c hc => hh c (by simp [hc])) c hc
theorem AObj.under_mono {m n : Nat} (h : m ≤ n) {o : AObj} (ho : o.under m) : o.under n := by
  cases o with
  | dead => trivial
  | cells t cs => exact fun c hc => AL.under_mono h (ho c hc)
  | arr t sz rows => exact fun r hr c hc => AL.under_mono h (ho r hr c hc)
  | smap es => trivial
  | imap es => trivial
theorem Step.drop {w0 w : World} {B0 B : BMap} {S0 S : Nat → Prop} (st : Step w0 B0 S0 H0 w B S H) {m : Nat} (h0 : H0.length ≤ m) (hm : m ≤ H.length) :
    Step w0 B0 S0 H0 w B (Rest B S H m) (H.take m) where
  os := st.os
  tape := st.tape
  output := st.output
  size := st.size
  sub := fun b hb => .inl (st.sub b hb)
  keep := st.keep
  len := by simp; omega
  arr := by
    intro id t sz rows h
    have hlt := (List.getElem?_eq_some_iff.1 h).1
    have e : (H.take m)[id]? = H[id]? := by rw [List.getElem?_take, if_pos (by omega)]
    rw [e]
    exact st.arr id t sz rows h
  cel := by
    intro id hid hn
    have e : (H.take m)[id]? = H[id]? := by rw [List.getElem?_take, if_pos (by omega)]
    rw [e]
    exact st.cel id hid hn
/-- What may fall away: nothing below m names it. -/
def Droppable (H0 H : List AObj) (m : Nat) : Prop :=
  H0.length ≤ m ∧ m ≤ H.length ∧ ∀ id o, id < m → H[id]? = some o → (H0[id]? = some o) ∨ o.under m
theorem Sim.dropped {w0 : World} {B0 : BMap} {S0 : Nat → Prop} {D : List Deferred} {a : Act} {w : World} {B : BMap} {S : Nat → Prop} (s : Sim w0 B0 S0 H0 D tm H a w B S) {m : Nat} (k : Nat) (hd : Droppable H0 H m) :
    Sim w0 B0 S0 H0 D (tm.map fun c => c.low H m k) (H.take m) a w B (Rest B S H m) := by
  obtain ⟨h0, hm, hu⟩ := hd
  have hu' : ∀ id o, id < m → H[id]? = some o → o.under m := by
    intro id o hid ho
    rcases hu id o hid ho with h | h
    · exact AObj.under_mono h0 (s.entry.under h)
    · exact h
  refine ⟨s.entry, s.step.drop h0 hm, drop_rel s.hrel hm hu', ?_, s.defers⟩
  refine ⟨by simpa using s.tmps.1, fun j c v hc hv => ?_⟩
  simp only [List.getElem?_map, Option.map_eq_some_iff] at hc
  obtain ⟨c', hc, rfl⟩ := hc
  exact low_rel s.hrel hm (s.tmps.2 j c' v hc hv)
theorem Wk.drop {m : Nat} (k : Nat) (hd : Droppable H0 H m) : Wk H0 tm H (tm.map fun c => c.low H m k) (H.take m) :=
  fun w0 B0 S0 D a w B S s => ⟨B, _, s.dropped k hd⟩
/-! ### loops -/
def AWLoop (P : Program) (H0 : List AObj) (c : Code) (Q : AEx → List AV → List AObj → Prop) : Nat → List AV → List AObj → Prop
  | 0, _, _ => False
  | n + 1, tm, H => AWP P H0 c (AEx.thn (AWLoop P H0 c Q n) Q) tm H
theorem awp_loop {c : Code} (n : Nat) (h : AWLoop P H0 c Q n tm H) : AWP P H0 (.loop c) Q tm H := by
  intro w0 B0 S0 D a w B S s
  refine wp_loop_ghost (fun n a w => ∃ tm H B S, AWLoop P H0 c Q n tm H ∧ Sim w0 B0 S0 H0 D tm H a w B S) n ⟨tm, H, B, S, h, s⟩ ?_
  rintro n a w ⟨tm, H, B, S, h, s⟩
  cases n with
  | zero => exact h.elim
  | succ n =>
    refine wp_mono (h w0 B0 S0 D a w B S s) ?_
    rintro e a' w' ⟨x, tm', H', B', S', hq, s', hx⟩
    cases x <;> cases e <;> simp only [XRel] at hx <;> try (exact hx.elim)
    case normal.normal => exact ⟨n, Nat.lt_succ_self n, tm', H', B', S', hq, s'⟩
    case exit.exit => exact ⟨_, _, _, _, _, hq, s', hx⟩
    case goto.goto => exact ⟨_, _, _, _, _, hq, s', hx⟩
    case ret.ret => exact ⟨.ret, _, _, _, _, hq, s', trivial⟩
    case pan.panic => exact ⟨_, _, _, _, _, hq, s', hx⟩
theorem AWLoop.wk {c : Code} {n : Nat} {tm' : List AV} {H' : List AObj} (h : Wk H0 tm H tm' H') (k : AWLoop P H0 c Q n tm' H') : AWLoop P H0 c Q n tm H := by
  cases n with
  | zero => exact k.elim
  | succ n => exact awp_wk h k
/-! ### a function, from its entry to its end -/
def aResult (P : Program) (tm : List AV) (H : List AObj) : ResultVar → Option AV
  | .tmp t => some (aev tm (.tmp t))
  | .cell a t => match ATy.of P t with
    | some T => if T.desc.isAgg = true ∨ T.size = 1 then aLoad H T.desc.isAgg T.size (aev tm (.tmp a)) else none
    | none => none
def aResultL (P : Program) (tm : List AV) (H : List AObj) : List ResultVar → Option (List AV)
  | [] => some []
  | r :: rs => match aResult P tm H r, aResultL P tm H rs with
    | some v, some vs => some (v :: vs)
    | _, _ => none
def aOne : List AV → AV
  | [v] => v
  | vs => .tup vs
theorem result_rel {w0 : World} {B0 : BMap} {S0 : Nat → Prop} {D : List Deferred} {a : Act} {w : World} {B : BMap} {S : Nat → Prop} (s : Sim w0 B0 S0 H0 D tm H a w B S) :
    ∀ {rs : List ResultVar} {vs : List AV}, aResultL P tm H rs = some vs →
      ∃ xs : List Value, (rs.mapM fun (r : ResultVar) => match r with | .tmp t => pure (a.tmps.getD t undef) | .cell x t => do loadVar t (← asAddr (a.tmps.getD x undef)) : Sem (List Value)).run P w = .ok xs w ∧ ARelL w B S H vs xs
  | [], vs, h => by
    simp only [aResultL, Option.some.injEq] at h
    subst h
    exact ⟨[], rfl, ARelL.nil⟩
  | r :: rs, vs, h => by
    simp only [aResultL] at h
    split at h
    · rename_i v vs' h1 h2
      simp only [Option.some.injEq] at h
      subst h
      obtain ⟨xs, g1, g2⟩ := result_rel s h2
      have one : ∃ x, (match r with | .tmp t => pure (a.tmps.getD t undef) | .cell x t => do loadVar t (← asAddr (a.tmps.getD x undef)) : Sem Value).run P w = .ok x w ∧ ARel w B S H v x := by
        cases r with
        | tmp t =>
          simp only [aResult, Option.some.injEq] at h1
          subst h1
          exact ⟨_, rfl, s.ev (.tmp t)⟩
        | cell x t =>
          simp only [aResult] at h1
          split at h1
          · rename_i T hT
            split at h1
            · rename_i hs
              obtain ⟨ad, had, r, q1, q2⟩ := does_loadS (P := P) hT hs s.hrel (s.ev (.tmp x)) h1
              have had' : a.tmps.getD x undef = .pointer (some ad) := had
              exact ⟨r, by simp only [had', asAddr, Sem.run_bind, Sem.run_pure, Result.andThen_ok]; exact q1, q2⟩
            · cases h1
          · cases h1
      obtain ⟨x, h3, h4⟩ := one
      refine ⟨x :: xs, ?_, ARelL.cons h4 g2⟩
      simp only [List.mapM_cons, Sem.run_bind, h3, Result.andThen_ok, g1, Sem.run_pure]
    · cases h
theorem results_rel {w0 : World} {B0 : BMap} {S0 : Nat → Prop} {D : List Deferred} {a : Act} {w : World} {B : BMap} {S : Nat → Prop} (s : Sim w0 B0 S0 H0 D tm H a w B S)
    {fn : Func} {vs : List AV} (h : aResultL P tm H fn.results.toList = some vs) : ∃ x, (results fn a.tmps).run P w = .ok x w ∧ ARel w B S H (aOne vs) x := by
  obtain ⟨xs, h1, h2⟩ := result_rel (P := P) s h
  have hrun : (fn.results.mapM fun (r : ResultVar) => match r with | .tmp t => pure (a.tmps.getD t undef) | .cell x t => do loadVar t (← asAddr (a.tmps.getD x undef)) : Sem (Array Value)).run P w = .ok xs.toArray w := by
    rw [Array.mapM_eq_mapM_toList, Sem.run_map, h1]
    rfl
  unfold results
  rw [Sem.run_bind]
  refine ⟨if h : xs.toArray.size = 1 then xs.toArray[0] else .tuple xs.toArray, ?_, ?_⟩
  · have := congrArg (fun r => Result.andThen r fun vs w' => (Result.ok (if h : vs.size = 1 then vs[0] else Value.tuple vs) w' : Result Value)) hrun
    exact this
  · have hl := h2.1
    cases vs with
    | nil =>
      have : xs = [] := by simpa using hl.symm
      subst this
      simp only [List.size_toArray, List.length_nil, aOne]
      exact .tup (vs := []) rfl h2.2
    | cons v vs =>
      cases xs with
      | nil => simp at hl
      | cons x xs =>
        cases vs with
        | nil =>
          have : xs = [] := by simpa using hl.symm
          subst this
          simp only [List.size_toArray, List.length_cons, List.length_nil, aOne]
          exact h2.2 0 v x rfl rfl
        | cons v' vs =>
          cases xs with
          | nil => simp at hl
          | cons x' xs =>
            simp only [List.size_toArray, List.length_cons, aOne]
            rw [dif_neg (by omega)]
            exact .tup hl h2.2
/-- What a function hands back, and what memory it leaves. -/
def Fin (H0 H : List AObj) (v : AV) (H2 : List AObj) (v2 : AV) : Prop :=
  ∃ m k, Droppable H0 H m ∧ H2 = H.take m ∧ Cv (v.low H m k) v2
def RetQ (P : Program) (rs : List ResultVar) (H0 : List AObj) (out : AOut) : AEx → List AV → List AObj → Prop
  | .normal, tm, H | .ret, tm, H => ∃ vs, aResultL P tm H rs = some vs ∧ ∃ v2, out = .ret v2 out.H ∧ Fin H0 H (aOne vs) out.H v2
  | .pan x, tm, H => ∃ v2, out = .pan v2 out.H ∧ Fin H0 H x out.H v2
  | _, _, _ => False
theorem ARun.intro {f : FuncId} {fn : Func} {c : Code} {args : List AV} {out : AOut} {n : Nat} {rs : List ResultVar} (hf : P.funcs[f]? = some fn) (hb : fn.body = some c)
    (hcall : ∀ xs w, (callFunc f xs).run P w = .ok (.enter f xs) w) (hn : fn.ntmps = n) (hrs : fn.results = rs.toArray)
    (h : AWP P H0 c (RetQ P rs H0 out) (args ++ List.replicate (n - args.length) (.tup [])) H0) : ARun P f args H0 out := by
  refine ⟨hcall, fun w B S vs hr hargs => ?_⟩
  refine calls_of_wp hf hb ?_
  have hl := hargs.1
  have s : Sim w B S H0 [] (args ++ List.replicate (n - args.length) (.tup [])) H0 { tmps := vs.toArray ++ Array.replicate (fn.ntmps - vs.toArray.size) undef, defers := [] } w B S := by
    refine ⟨hr, Step.refl _ _ _ _, hr, ?_, rfl⟩
    have : (vs.toArray ++ Array.replicate (fn.ntmps - vs.toArray.size) undef).toList = vs ++ List.replicate (n - args.length) undef := by
      simp [hn, hl]
    rw [this]
    refine hargs.append ⟨by simp, fun j c v hc hv => ?_⟩
    have h1 := (List.mem_replicate.1 (List.mem_of_getElem? hc)).2
    have h2 := (List.mem_replicate.1 (List.mem_of_getElem? hv)).2
    subst h1; subst h2
    exact undef_rel
  refine wp_mono (h w B S [] _ w B S s) ?_
  have ret : ∀ tm H a' w' B' S', Sim w B S H0 [] tm H a' w' B' S' → (∃ vs, aResultL P tm H rs = some vs ∧ ∃ v2, out = .ret v2 out.H ∧ Fin H0 H (aOne vs) out.H v2) →
      a'.defers = [] ∧ ∃ v, (results fn a'.tmps).run P w' = .ok v w' ∧ ∃ B'' S'', Step w B S H0 w' B'' S'' out.H ∧ HRel w' B'' S'' out.H ∧ ERel w' B'' S'' out (.returned v) := by
    rintro tm H a' w' B' S' s' ⟨vs', hvs, v2, ho, m, k, hd, hH2, hv2⟩
    obtain ⟨x, hx1, hx2⟩ := results_rel (P := P) (fn := fn) s' (by rw [hrs]; exact hvs)
    have s2 := s'.dropped k hd
    refine ⟨s'.defers, x, hx1, B', _, by rw [hH2]; exact s2.step, by rw [hH2]; exact s2.hrel, ?_⟩
    rw [ho]
    simp only [ERel]
    have h3 := low_rel (n := k) s'.hrel hd.2.1 hx2
    rw [hH2]
    exact hv2 _ _ _ _ _ h3
  rintro e a' w' ⟨x, tm', H', B', S', hq, s', hx⟩
  cases x <;> cases e <;> simp only [XRel] at hx <;> try (exact hx.elim)
  case normal.normal => exact ret _ _ _ _ _ _ s' hq
  case exit.exit => exact hq.elim
  case goto.goto => exact hq.elim
  case ret.ret => exact ret _ _ _ _ _ _ s' hq
  case pan.panic =>
    obtain ⟨v, rfl, hv⟩ := hx
    obtain ⟨v2, ho, m, k, hd, hH2, hv2⟩ := hq
    have s2 := s'.dropped k hd
    refine ⟨s'.defers, B', _, by rw [hH2]; exact s2.step, by rw [hH2]; exact s2.hrel, ?_⟩
    rw [ho]
    simp only [ERel]
    refine ⟨v, rfl, ?_⟩
    have h3 := low_rel (n := k) s'.hrel hd.2.1 hv
    rw [hH2]
    exact hv2 _ _ _ _ _ h3
end
end Go.Proofs.YtpfjlifneibhfaaGreat.AL
namespace Go.Proofs.YtpfjlifneibhfaaGreat.AL
variable [G : GTab]
section
variable {P : Program} {H0 : List AObj} {Q : AEx → List AV → List AObj → Prop} {tm : List AV} {H : List AObj}
def AEx.two (Kn : List AV → List AObj → Prop) (Kp : AV → List AV → List AObj → Prop) : AEx → List AV → List AObj → Prop
  | .normal, tm, H => Kn tm H
  | .pan x, tm, H => Kp x tm H
  | _, _, _ => False
/-- A region, with what stands behind it out of sight. -/
theorem awp_region_k {id : Nat} {l : List Oper} (h : ∀ (Kn : List AV → List AObj → Prop) (Kp : AV → List AV → List AObj → Prop), (∀ tm H, Q .normal tm H → Kn tm H) → (∀ x tm H, Q (.pan x) tm H → Kp x tm H) → AWL P l (AEx.two Kn Kp) l tm H) :
    AWP P H0 (.region id l.toArray false) Q tm H := by
  refine awp_mono (awp_region (h (Q .normal) (fun x => Q (.pan x)) (fun _ _ h => h) (fun _ _ _ h => h))) ?_
  intro e tm H hq
  cases e <;> first | exact hq | exact hq.elim
theorem getO0 (A : List AObj) (o : AObj) (L : List AObj) : (A ++ o :: L)[A.length]? = some o := by simp
theorem getOk (A L : List AObj) (k : Nat) : (A ++ L)[A.length + k]? = L[k]? := by rw [List.getElem?_append_right (by omega)]; congr 1; omega
theorem setO0 (A : List AObj) (o x : AObj) (L : List AObj) : (A ++ o :: L).set A.length x = A ++ x :: L := by rw [List.set_append_right (h := Nat.le_refl _)]; simp
theorem setOk (A L : List AObj) (k : Nat) (x : AObj) : (A ++ L).set (A.length + k) x = A ++ L.set k x := by rw [List.set_append_right (h := by omega)]; congr 2; omega
theorem getS0 (A : List AObj) (i : Nat) (y o : AObj) (L : List AObj) : (A.set i y ++ o :: L)[A.length]? = some o := by have := getO0 (A.set i y) o L; rwa [List.length_set] at this
theorem getSk (A : List AObj) (i : Nat) (y : AObj) (L : List AObj) (k : Nat) : (A.set i y ++ L)[A.length + k]? = L[k]? := by have := getOk (A.set i y) L k; rwa [List.length_set] at this
theorem setS0 (A : List AObj) (i : Nat) (y o x : AObj) (L : List AObj) : (A.set i y ++ o :: L).set A.length x = A.set i y ++ x :: L := by have := setO0 (A.set i y) o x L; rwa [List.length_set] at this
theorem setSk (A : List AObj) (i : Nat) (y : AObj) (L : List AObj) (k : Nat) (x : AObj) : (A.set i y ++ L).set (A.length + k) x = A.set i y ++ L.set k x := by have := setOk (A.set i y) L k x; rwa [List.length_set] at this
theorem getOut {A : List AObj} {i : Nat} {o : AObj} (h : A[i]? = some o) (L : List AObj) : (A ++ L)[i]? = some o := by
  rw [List.getElem?_append_left (List.getElem?_eq_some_iff.1 h).1]; exact h
theorem takeO (A L : List AObj) : (A ++ L).take A.length = A := by simp
theorem not_lt_k (n k : Nat) : (n + k < n) = False := by simp
/-- A function that leaves told memory asx it was. -/
theorem Fin.pure {L : List AObj} {v v2 : AV} (k : Nat) (h : v2 = v.low (H0 ++ L) H0.length k) : Fin H0 (H0 ++ L) v H0 v2 :=
  ⟨H0.length, k, ⟨Nat.le_refl _, by simp, fun id o hid ho => .inl (by rwa [List.getElem?_append_left hid] at ho)⟩, by simp, Cv.of h⟩
theorem Fin.pureC {L : List AObj} {v v2 : AV} (k : Nat) (h : Cv (v.low (H0 ++ L) H0.length k) v2) : Fin H0 (H0 ++ L) v H0 v2 :=
  ⟨H0.length, k, ⟨Nat.le_refl _, by simp, fun id o hid ho => .inl (by rwa [List.getElem?_append_left hid] at ho)⟩, by simp, h⟩
theorem Fin.pure0 {v v2 : AV} (k : Nat) (h : v2 = v.low H0 H0.length k) : Fin H0 H0 v H0 v2 := by
  have := Fin.pure (H0 := H0) (L := []) (v := v) (v2 := v2) k (by simpa using h)
  simpa using this
theorem wrap_of {n : Int} (h : -9223372036854775808 ≤ n) (h' : n < 9223372036854775808) : IntKind.i64.wrap n = n := by
  simp [IntKind.wrap_i64]; omega
end
end Go.Proofs.YtpfjlifneibhfaaGreat.AL
namespace Go.Proofs.YtpfjlifneibhfaaGreat.AL
variable [G : GTab]
def opAfter (l : List Oper) (i : Nat) : List Nat := match l[i]? with
  | some o => (o.after.toList.filter (Region.binds .any)).map (·.on)
  | none => []
/-- Which operations come before, at whatever distance. -/
def ancTab (l : List Oper) : List (List Nat) :=
  (List.range l.length).foldl (fun tab i => tab ++ [((opAfter l i).flatMap fun k => k :: tab.getD k []).eraseDups]) []
def opDst (l : List Oper) (i : Nat) : Option Tmp := (l[i]?).bind (·.dst)
def opTmps (l : List Oper) (o : Oper) : List Tmp :=
  (o.op.operands.toList.filterMap fun | .tmp t => some t | _ => none) ++ (match o.guard with
    | some (j, _) => (opDst l j).toList
    | none => [])
def winLo (tab : List (List Nat)) (effs : List Nat) (i : Nat) : Nat := (effs.filter fun e => (tab.getD i []).contains e).length
def winHi (tab : List (List Nat)) (effs : List Nat) (i : Nat) : Nat := (effs.takeWhile fun e => !(tab.getD e []).contains i).length
/-- What the kernel asks of a region. effs: the operations that turn memory, in their order; wins: between which of them each other operation may fall. -/
def drawOk (l : List Oper) (tab : List (List Nat)) (effs : List Nat) (wins : List (Nat × Nat)) (sm : List Tmp := []) : Bool :=
  effs.Nodup && (effs.all (· < l.length)) &&
  (List.range l.length).all fun i =>
    (opAfter l i).all (· < i) &&
    ((tab.getD i []).all fun k => (opAfter l i).any fun e => k == e || (tab.getD e []).contains k) &&
    (match l[i]? with
     | some o => notSelect o.op && (opTmps l o).all fun t => (List.range l.length).all fun j => opDst l j != some t || (tab.getD i []).contains j || sm.contains t
     | none => false) &&
    ((List.range l.length).all fun j => j == i || (opDst l j).isNone || opDst l j != opDst l i) &&
    (!(effs.contains i) || (effs.take (effs.idxOf i)).all fun e => (tab.getD i []).contains e) &&
    wins.getD i (0, 0) == (winLo tab effs i, winHi tab effs i)
/-- An operation comes to what is foretold: v to its slot, memory H'. -/
def OpGood (P : Program) (l : List Oper) (T : List AV) (H : List AObj) (o : Oper) (H' : List AObj) : Prop :=
  match aWanted l T o with
  | some false => (∀ d, o.dst = some d → T[d]? = some (.tup [])) ∧ H' = H
  | some true => match aStep P T H o with
    | .next v H1 => (∀ d, o.dst = some d → T[d]? = some v) ∧ H' = H1
    | .run => aConcs T o = true ∧ ∃ r : Value, (∀ w, (execOp (aRho T) o).run P w = .ok (.value r) w) ∧ (∀ d, o.dst = some d → T[d]? = some (.ofV r)) ∧ H' = H
    | .enter f args => ∃ v, ARun P f args H (.ret v H') ∧ ∀ d, o.dst = some d → T[d]? = some v
    | .pan _ => False
  | none => False
/-- An operation that panics. -/
def PanGood (P : Program) (l : List Oper) (T : List AV) (Q : AEx → List AV → List AObj → Prop) (H : List AObj) (o : Oper) : Prop :=
  match aWanted l T o with
  | some true => match aStep P T H o with
    | .pan x => ∀ tm', Q (.pan x) tm' H
    | .enter f args => ∃ x H', ARun P f args H (.pan x H') ∧ ∀ tm', Q (.pan x) tm' H'
    | _ => False
  | _ => False
/-- bad: the operations that panic; what stands behind them is never carried out. -/
def GoodFrom (P : Program) (l : List Oper) (T : List AV) (Hs : List (List AObj)) (effs : List Nat) (wins : List (Nat × Nat)) (tab : List (List Nat)) (bad : List Nat) (Q : AEx → List AV → List AObj → Prop) : Nat → List Oper → Prop
  | _, [] => True
  | i, o :: rest => (if (bad.any fun b => (tab.getD i []).contains b) = true then True else if bad.contains i then
        (if effs.contains i then PanGood P l T Q (Hs.getD (effs.idxOf i) []) o else ∀ j ∈ List.range' (wins.getD i (0, 0)).1 ((wins.getD i (0, 0)).2 + 1 - (wins.getD i (0, 0)).1), PanGood P l T Q (Hs.getD j []) o)
      else if effs.contains i then OpGood P l T (Hs.getD (effs.idxOf i) []) o (Hs.getD (effs.idxOf i + 1) []) else
      ∀ j ∈ List.range' (wins.getD i (0, 0)).1 ((wins.getD i (0, 0)).2 + 1 - (wins.getD i (0, 0)).1), OpGood P l T (Hs.getD j []) o (Hs.getD j [])) ∧ GoodFrom P l T Hs effs wins tab bad Q (i + 1) rest
theorem GoodFrom.get {P : Program} {l : List Oper} {T : List AV} {Hs : List (List AObj)} {effs : List Nat} {wins : List (Nat × Nat)} {tab : List (List Nat)} {bad : List Nat} {Q : AEx → List AV → List AObj → Prop} : ∀ {i : Nat} {rest : List Oper}, GoodFrom P l T Hs effs wins tab bad Q i rest →
    ∀ k o, rest[k]? = some o → (∀ b ∈ bad, b ∉ tab.getD (i + k) []) → (effs.contains (i + k) = true → if bad.contains (i + k) then PanGood P l T Q (Hs.getD (effs.idxOf (i + k)) []) o else OpGood P l T (Hs.getD (effs.idxOf (i + k)) []) o (Hs.getD (effs.idxOf (i + k) + 1) [])) ∧
      (effs.contains (i + k) = false → ∀ j, (wins.getD (i + k) (0, 0)).1 ≤ j → j ≤ (wins.getD (i + k) (0, 0)).2 → if bad.contains (i + k) then PanGood P l T Q (Hs.getD j []) o else OpGood P l T (Hs.getD j []) o (Hs.getD j []))
  | i, [], _, k, o, h, _ => by simp at h
  | i, x :: rest, g, k, o, h, hb => by
    obtain ⟨g1, g2⟩ := g
    cases k with
    | zero =>
      simp only [List.getElem?_cons_zero, Option.some.injEq] at h
      subst h
      simp only [Nat.add_zero] at hb ⊢
      rw [if_neg (by simp only [List.any_eq_true, List.contains_iff_mem, not_exists, not_and]; exact hb)] at g1
      constructor
      · intro hc
        split
        · rename_i hbc; rw [if_pos hbc, if_pos hc] at g1; exact g1
        · rename_i hbc; rw [if_neg hbc, if_pos hc] at g1; exact g1
      · intro hc j h1 h2
        have hm : j ∈ List.range' (wins.getD i (0, 0)).1 ((wins.getD i (0, 0)).2 + 1 - (wins.getD i (0, 0)).1) := by rw [List.mem_range'_1]; omega
        split
        · rename_i hbc; rw [if_pos hbc, if_neg (by rw [hc]; simp)] at g1; exact g1 j hm
        · rename_i hbc; rw [if_neg hbc, if_neg (by rw [hc]; simp)] at g1; exact g1 j hm
    | succ k =>
      simp only [List.getElem?_cons_succ] at h
      have := g2.get k o h (by rw [show i + 1 + k = i + (k + 1) by omega]; exact hb)
      rw [show i + 1 + k = i + (k + 1) by omega] at this
      exact this
theorem aev_congr {tm tm' : List AV} {x : Operand} (h : ∀ t, x = .tmp t → tm[t]? = tm'[t]?) : aev tm x = aev tm' x := by
  cases x with
  | tmp t => simp only [aev]; rw [h t rfl]
  | _ => rfl
theorem aStep_congr {P : Program} {tm tm' : List AV} {H : List AObj} {o : Oper} (h : ∀ x ∈ o.op.operands, aev tm x = aev tm' x) : aStep P tm H o = aStep P tm' H o := by
  have pairs : ∀ ps : Array (Nat × Operand), (∀ x ∈ (ps.toList.map (·.2)).toArray, aev tm x = aev tm' x) → (ps.toList.map fun p => (p.1, aev tm p.2)) = ps.toList.map fun p => (p.1, aev tm' p.2) := by
    intro ps hp
    apply List.map_congr_left
    intro p hm
    rw [hp p.2 (by simp; exact ⟨p.1, by simpa using hm⟩)]
  have lists : ∀ xs : List Operand, (∀ x ∈ xs, aev tm x = aev tm' x) → xs.map (aev tm) = xs.map (aev tm') := fun xs hx => List.map_congr_left hx
  have bounds : ∀ b : Option Operand, (∀ x, b = some x → aev tm x = aev tm' x) → aBound tm b = aBound tm' b := by
    intro b hb
    cases b with
    | none => rfl
    | some x => simp only [aBound]; rw [hb x rfl]
  unfold aStep
  cases hop : o.op <;> rw [hop] at h <;> (try simp only [Op.operands] at h) <;> (try simp only)
  case move x => rw [h x (by simp)]
  case assign x => rw [h x (by simp)]
  case pick c a b => rw [h c (by simp), h a (by simp), h b (by simp)]
  case box t x => rw [h x (by simp)]
  case build t ps => rw [pairs ps (by simpa using h)]
  case buildSlice t n ps => rw [pairs ps (by simpa using h)]
  case load t x => rw [h x (by simp)]
  case store t a v => rw [h a (by simp), h v (by simp)]
  case nilCheck x => rw [h x (by simp)]
  case binOp op t x y t' => rw [h x (by simp), h y (by simp)]
  case unOp op t x => cases op <;> simp only <;> rw [h x (by simp)]
  case makeInterface t x => rw [h x (by simp)]
  case convert t u x => rw [h x (by simp)]
  case makeFunc f fi ca => rw [lists fi.toList (fun x hx => h x (by simp at hx ⊢; exact .inl hx)), lists ca.toList (fun x hx => h x (by simp at hx ⊢; exact .inr hx))]
  case fieldAddr s x f => rw [h x (by simp)]
  case field s x f => rw [h x (by simp)]
  case indexAddr t x i => rw [h x (by simp), h i (by simp)]
  case index t x i => rw [h x (by simp), h i (by simp)]
  case extract x i => rw [h x (by simp)]
  case slice t x lo hi mx =>
    cases mx with
    | some m => rfl
    | none =>
      simp only
      rw [h x (by simp), bounds lo (fun y hy => h y (by subst hy; simp)), bounds hi (fun y hy => h y (by subst hy; simp))]
  case makeSlice t l c => rw [h l (by simp), h c (by simp)]
  case makeMap t r => cases r <;> rfl
  case lookup t x k ok => rw [h x (by simp), h k (by simp)]
  case mapUpdate t m k x => rw [h m (by simp), h k (by simp), h x (by simp)]
  case insert t m k x => rw [h m (by simp), h k (by simp), h x (by simp)]
  case call c =>
    unfold aCall
    have hargs : ∀ x ∈ c.args.toList, aev tm x = aev tm' x := fun x hx => h x (by simp only [Call.operands]; exact Array.mem_append.2 (.inr (by simpa using hx)))
    cases hc : c.callee with
    | value f =>
      have hf := h f (by simp [Call.operands, hc])
      (try simp only)
      rw [hf, lists _ hargs]
    | invoke r m => rfl
    | builtin b =>
      cases b <;> (try simp only)
      case len =>
        cases hx : c.args.toList with
        | nil => rfl
        | cons x xs => cases xs with
          | nil =>
            have e := hargs x (by rw [hx]; simp)
            cases c.argTypes.toList with
            | nil => rfl
            | cons t ts => cases ts with
              | nil => simp only [e]
              | cons => rfl
          | cons => rfl
      case max => rw [lists _ hargs]
      case min => rw [lists _ hargs]
      case append =>
        cases hx : c.args.toList with
        | nil => rfl
        | cons x xs => cases xs with
          | nil => rfl
          | cons y ys => cases ys with
            | nil =>
              have e1 := hargs x (by rw [hx]; simp)
              have e2 := hargs y (by rw [hx]; simp)
              cases c.argTypes.toList with
              | nil => rfl
              | cons t ts => cases ts with
                | nil => rfl
                | cons t' ts => cases ts with
                  | nil => simp only [e1, e2]
                  | cons => rfl
            | cons => rfl
  case panic x => rw [h x (by simp)]
theorem aConcs_congr {tm tm' : List AV} {o : Oper} (h : ∀ x ∈ o.op.operands, aev tm x = aev tm' x) : aConcs tm o = aConcs tm' o ∧ execOp (aRho tm) o = execOp (aRho tm') o ∨ notSelect o.op = false := by
  cases hs : notSelect o.op with
  | false => exact .inr rfl
  | true =>
    refine .inl ⟨?_, execOp_congr o (fun cs b e => by rw [e] at hs; simp [notSelect] at hs) (fun x hx => by unfold aRho; rw [h x hx])⟩
    unfold aConcs
    rw [Bool.eq_iff_iff, List.all_eq_true, List.all_eq_true]
    constructor
    · intro hh x hx; rw [← h x (by simpa using hx)]; exact hh x hx
    · intro hh x hx; rw [h x (by simpa using hx)]; exact hh x hx
section
variable {P : Program} {l : List Oper} {tab : List (List Nat)} {effs : List Nat} {wins : List (Nat × Nat)} {bad : List Nat} {T tm0 : List AV} {Hs : List (List AObj)}
  {w0 : World} {B0 : BMap} {S0 : Nat → Prop} {H0 : List AObj} {D : List Deferred} {Q : AEx → List AV → List AObj → Prop}
def Lst (listed : Array Bool) (i : Nat) : Prop := listed.getD i false = true
/-- Where a schedule stands. -/
structure DInv (l : List Oper) (tab : List (List Nat)) (effs : List Nat) (T tm0 : List AV) (listed : Array Bool) (j : Nat) (tm : List AV) : Prop where
  size : listed.size = l.length
  closed : ∀ i, Lst listed i → ∀ k ∈ tab.getD i [], Lst listed k
  ef : ∀ e ∈ effs, (Lst listed e ↔ e ∈ effs.take j)
  jle : j ≤ effs.length
  len : tm.length = tm0.length
  done : ∀ i d, Lst listed i → opDst l i = some d → tm[d]? = T[d]?
  rest : ∀ d, (∀ i, Lst listed i → opDst l i ≠ some d) → tm[d]? = tm0[d]?
structure DOk (l : List Oper) (tab : List (List Nat)) (effs : List Nat) (wins : List (Nat × Nat)) (sm : List Tmp := []) : Prop where
  nodup : effs.Nodup
  lt : ∀ e ∈ effs, e < l.length
  aft : ∃ rk : Nat → Nat, ∀ i, i < l.length → ∀ k ∈ opAfter l i, k < l.length ∧ rk k < rk i
  anc : ∀ i, i < l.length → ∀ k ∈ tab.getD i [], ∃ e ∈ opAfter l i, k = e ∨ k ∈ tab.getD e []
  sel : ∀ (i : Nat) (o : Oper), l[i]? = some o → notSelect o.op = true
  tmps : ∀ (i : Nat) (o : Oper), l[i]? = some o → ∀ t ∈ opTmps l o, ∀ j, j < l.length → opDst l j = some t → j ∈ tab.getD i [] ∨ t ∈ sm
  dst : ∀ i j, i < l.length → j < l.length → j ≠ i → ∀ d, opDst l j = some d → opDst l i ≠ some d
  ord : ∀ i, i < l.length → i ∈ effs → ∀ e ∈ effs.take (effs.idxOf i), e ∈ tab.getD i []
  win : ∀ i, i < l.length → wins.getD i (0, 0) = (winLo tab effs i, winHi tab effs i)
theorem drawOk_spec {sm : List Tmp} (h : drawOk l tab effs wins sm = true) : DOk l tab effs wins sm := by
  unfold drawOk at h
  simp only [Bool.and_eq_true, List.all_eq_true, List.mem_range, decide_eq_true_eq] at h
  obtain ⟨⟨h1, h2⟩, h3⟩ := h
  refine ⟨h1, h2, ⟨id, fun i hi k hk => ⟨Nat.lt_trans ((h3 i hi).1.1.1.1.1 k hk) hi, (h3 i hi).1.1.1.1.1 k hk⟩⟩, ?_, ?_, ?_, ?_, ?_, ?_⟩
  · intro i hi k hk
    have := (h3 i hi).1.1.1.1.2 k hk
    simp only [List.any_eq_true, Bool.or_eq_true, beq_iff_eq, List.contains_iff_mem] at this
    exact this
  · intro i o ho
    have := (h3 i (List.getElem?_eq_some_iff.1 ho).1).1.1.1.2
    rw [ho] at this
    simp only [Bool.and_eq_true] at this
    exact this.1
  · intro i o ho t ht j hj hd
    have := (h3 i (List.getElem?_eq_some_iff.1 ho).1).1.1.1.2
    rw [ho] at this
    simp only [Bool.and_eq_true, List.all_eq_true, List.mem_range, Bool.or_eq_true, bne_iff_ne, List.contains_iff_mem] at this
    exact (this.2 t ht j hj).elim (fun hh => hh.elim (fun hh => absurd hd hh) .inl) .inr
  · intro i j hi hj hne d hd hd'
    have := (h3 i hi).1.1.2 j hj
    simp only [Bool.or_eq_true, beq_iff_eq, bne_iff_ne, hd, hd'] at this
    rcases this with (h | h) | h
    · exact hne h
    · simp at h
    · exact h rfl
  · intro i hi hie e he
    have := (h3 i hi).1.2
    simp only [Bool.or_eq_true, Bool.not_eq_true', List.all_eq_true, List.contains_iff_mem] at this
    rcases this with h | h
    · have : effs.contains i = true := by simpa using hie
      rw [this] at h; cases h
    · exact h e he
  · intro i hi
    have := (h3 i hi).2
    simpa using this
theorem mem_ready' {listed : Array Bool} {i : Nat} (h : i ∈ Region.ready .any l.toArray listed) : listed.getD i true = false ∧ i < l.length ∧ ∀ k ∈ opAfter l i, Lst listed k := by
  obtain ⟨h1, o, ho, h2⟩ := mem_ready.1 h
  have ho' : l[i]? = some o := by simpa using ho
  refine ⟨h1, (List.getElem?_eq_some_iff.1 ho').1, ?_⟩
  intro k hk
  unfold opAfter at hk
  rw [ho'] at hk
  simp only [List.mem_map, List.mem_filter] at hk
  obtain ⟨e, ⟨he, hb⟩, rfl⟩ := hk
  exact h2 e (by simpa using he) hb
theorem ready_of {sm : List Tmp} (hk : DOk l tab effs wins sm) {listed : Array Bool} (hsz : listed.size = l.length) (h : Region.ready .any l.toArray listed = []) : ∀ i, i < l.length → Lst listed i := by
  obtain ⟨rk, hrk⟩ := hk.aft
  have key : ∀ (n i : Nat), rk i ≤ n → i < l.length → Lst listed i := by
    intro n
    induction n with
    | zero =>
      intro i hin hi
      cases hl : listed.getD i false with
      | true => exact hl
      | false =>
        exfalso
        have : i ∈ Region.ready .any l.toArray listed := by
          rw [mem_ready]
          refine ⟨?_, l[i], by simp [hi], ?_⟩
          · have hlt : i < listed.size := by omega
            simp only [Array.getD_eq_getD_getElem?, Array.getElem?_eq_getElem hlt, Option.getD_some] at hl ⊢
            exact hl
          · intro e he hb
            have hke : e.on ∈ opAfter l i := by
              unfold opAfter
              rw [List.getElem?_eq_getElem hi]
              simp only [List.mem_map, List.mem_filter]
              exact ⟨e, ⟨by simpa using he, hb⟩, rfl⟩
            have := (hrk i hi _ hke).2
            omega
        rw [h] at this
        cases this
    | succ n ih =>
      intro i hin hi
      cases hl : listed.getD i false with
      | true => exact hl
      | false =>
        exfalso
        have : i ∈ Region.ready .any l.toArray listed := by
          rw [mem_ready]
          refine ⟨?_, l[i], by simp [hi], ?_⟩
          · have hlt : i < listed.size := by omega
            simp only [Array.getD_eq_getD_getElem?, Array.getElem?_eq_getElem hlt, Option.getD_some] at hl ⊢
            exact hl
          · intro e he hb
            have hke : e.on ∈ opAfter l i := by
              unfold opAfter
              rw [List.getElem?_eq_getElem hi]
              simp only [List.mem_map, List.mem_filter]
              exact ⟨e, ⟨by simpa using he, hb⟩, rfl⟩
            have := hrk i hi _ hke
            exact ih _ (by omega) this.1
        rw [h] at this
        cases this
  exact fun i hi => key (rk i) i (Nat.le_refl _) hi
theorem lst_set {listed : Array Bool} {i k : Nat} (hi : i < listed.size) : Lst (listed.setIfInBounds i true) k ↔ (k = i ∨ Lst listed k) := by
  unfold Lst
  simp only [Array.getD_eq_getD_getElem?, Array.getElem?_setIfInBounds]
  by_cases e : i = k
  · subst e; simp [hi]
  · simp [e, show ¬ k = i from fun h => e h.symm]
theorem takeWhile_len {p : Nat → Bool} : ∀ (xs : List Nat) (j : Nat), (xs.takeWhile p).length < j → j ≤ xs.length → ∃ e ∈ xs.take j, p e = false
  | [], j, h, hl => by simp at h hl; omega
  | x :: xs, j, h, hl => by
    cases j with
    | zero => simp at h
    | succ j =>
      cases hp : p x with
      | false => exact ⟨x, by simp, hp⟩
      | true =>
        rw [List.takeWhile_cons, hp] at h
        simp only [if_true, List.length_cons] at h hl
        obtain ⟨e, he, hpe⟩ := takeWhile_len (p := p) xs j (by omega) (by omega)
        exact ⟨e, by simp [he], hpe⟩
theorem filter_len {p : Nat → Bool} {xs : List Nat} {j : Nat} (hn : xs.Nodup) (h : ∀ e ∈ xs, p e = true → e ∈ xs.take j) : (xs.filter p).length ≤ j := by
  have e : xs.filter p = (xs.take j).filter p ++ (xs.drop j).filter p := by rw [← List.filter_append, List.take_append_drop]
  have hz : (xs.drop j).filter p = [] := by
    rw [List.filter_eq_nil_iff]
    intro x hx hpx
    have h1 := h x (List.mem_of_mem_drop hx) hpx
    rw [← List.take_append_drop j xs] at hn
    exact (List.nodup_append.1 hn).2.2 x h1 x hx rfl
  rw [e, hz, List.append_nil]
  have h1 := List.length_filter_le p (xs.take j)
  have h2 : (xs.take j).length ≤ j := by simp; omega
  omega
theorem opgood_op {sm : List Tmp} (hsm : ∀ t ∈ sm, T[t]? = tm0[t]?) {tm : List AV} {listed : Array Bool} {j : Nat} (hk : DOk l tab effs wins sm) (inv : DInv l tab effs T tm0 listed j tm) {i : Nat} {o : Oper} (hi : l[i]? = some o)
    (hanc : ∀ k ∈ tab.getD i [], Lst listed k) (hT : ∀ s, (∀ i, i < l.length → opDst l i ≠ some s) → T[s]? = tm0[s]?) :
    (∀ x ∈ o.op.operands, aev tm x = aev T x) ∧ aWanted l tm o = aWanted l T o := by
  have slot : ∀ t ∈ opTmps l o, tm[t]? = T[t]? := by
    intro t ht
    by_cases hw : ∃ k, k < l.length ∧ opDst l k = some t
    · obtain ⟨k, hk1, hk2⟩ := hw
      rcases hk.tmps i o hi t ht k hk1 hk2 with hm | hm
      · exact inv.done k t (hanc k hm) hk2
      · by_cases hl : Lst listed k
        · exact inv.done k t hl hk2
        · rw [hsm t hm]
          refine inv.rest t (fun k' hk' hd' => ?_)
          have hlt : k' < l.length := by
            unfold opDst at hd'
            cases hx : l[k']? with
            | none => rw [hx] at hd'; cases hd'
            | some o' => exact (List.getElem?_eq_some_iff.1 hx).1
          by_cases he : k' = k
          · subst he; exact hl hk'
          · exact hk.dst k k' hk1 hlt he t hd' hk2
    · have h1 : ∀ k, k < l.length → opDst l k ≠ some t := fun k hk1 hk2 => hw ⟨k, hk1, hk2⟩
      rw [hT t h1]
      refine inv.rest t (fun k _ hk2 => ?_)
      have : k < l.length := by
        unfold opDst at hk2
        cases hx : l[k]? with
        | none => rw [hx] at hk2; cases hk2
        | some o' => exact (List.getElem?_eq_some_iff.1 hx).1
      exact h1 k this hk2
  constructor
  · intro x hx
    refine aev_congr (fun t e => slot t ?_)
    subst e
    unfold opTmps
    exact List.mem_append_left _ (List.mem_filterMap.2 ⟨.tmp t, by simpa using hx, rfl⟩)
  · unfold aWanted
    cases hg : o.guard with
    | none => rfl
    | some jw =>
      obtain ⟨g, want⟩ := jw
      simp only
      cases hd : (l[g]?).bind (·.dst) with
      | none => rfl
      | some d =>
        simp only
        rw [slot d ?_]
        unfold opTmps
        refine List.mem_append_right _ ?_
        rw [hg]
        simp only [opDst, hd, Option.toList_some, List.mem_singleton]
theorem draw_aux {sm : List Tmp} (hsm : ∀ t ∈ sm, T[t]? = tm0[t]?) (hk : DOk l tab effs wins sm) (hbad : ∀ b ∈ bad, b < l.length) (good : GoodFrom P l T Hs effs wins tab bad Q 0 l) (hT : ∀ s, (∀ i, i < l.length → opDst l i ≠ some s) → T[s]? = tm0[s]?) (hTl : T.length = tm0.length)
    (hQ : bad = [] → Q .normal T (Hs.getD effs.length [])) : ∀ (fuel : Nat) (listed : Array Bool) (j : Nat) (tm : List AV) (a : Act) (w : World) (B : BMap) (S : Nat → Prop),
      DInv l tab effs T tm0 listed j tm → (∀ b ∈ bad, ¬ Lst listed b) → Sim w0 B0 S0 H0 D tm (Hs.getD j []) a w B S → ((List.range l.length).filter fun i => !listed.getD i false).length ≤ fuel →
      wpAny P .any l.toArray (LiftQ w0 B0 S0 H0 D Q) fuel listed a w := by
  have atEnd : ∀ (listed : Array Bool) (j : Nat) (tm : List AV) (a : Act) (w : World) (B : BMap) (S : Nat → Prop), DInv l tab effs T tm0 listed j tm → (∀ b ∈ bad, ¬ Lst listed b) → Sim w0 B0 S0 H0 D tm (Hs.getD j []) a w B S →
      (∀ i, i < l.length → Lst listed i) → LiftQ w0 B0 S0 H0 D Q .normal a w := by
    intro listed j tm a w B S inv hnb s hall
    have hbn : bad = [] := by
      cases hb : bad with
      | nil => rfl
      | cons b bs => exact absurd (hall b (hbad b (by rw [hb]; simp))) (hnb b (by rw [hb]; simp))
    have hj : j = effs.length := by
      rcases Nat.lt_or_ge j effs.length with h | h
      · exfalso
        have hm : effs[j] ∈ effs := List.getElem_mem h
        have := (inv.ef _ hm).1 (hall _ (hk.lt _ hm))
        obtain ⟨k, hk1, hk2⟩ := List.mem_take_iff_getElem.1 this
        have := (List.getElem_inj hk.nodup).1 hk2
        omega
      · have := inv.jle; omega
    subst hj
    have htm : tm = T := by
      apply List.ext_getElem?
      intro d
      by_cases hw : ∃ k, k < l.length ∧ opDst l k = some d
      · obtain ⟨k, hk1, hk2⟩ := hw
        exact inv.done k d (hall k hk1) hk2
      · rw [hT d (fun k hk1 hk2 => hw ⟨k, hk1, hk2⟩)]
        refine inv.rest d (fun k _ hk2 => ?_)
        have : k < l.length := by
          unfold opDst at hk2
          cases hx : l[k]? with
          | none => rw [hx] at hk2; cases hk2
          | some o' => exact (List.getElem?_eq_some_iff.1 hx).1
        exact hw ⟨k, this, hk2⟩
    subst htm
    exact ⟨.normal, tm, _, B, S, hQ hbn, s, trivial⟩
  intro fuel
  induction fuel with
  | zero =>
    intro listed j tm a w B S inv hnb s hf
    have hall : ∀ i, i < l.length → Lst listed i := by
      intro i hi
      have hnil : ((List.range l.length).filter fun i => !listed.getD i false) = [] := List.eq_nil_of_length_eq_zero (by omega)
      rw [List.filter_eq_nil_iff] at hnil
      have := hnil i (by simpa using hi)
      simpa [Lst] using this
    refine ⟨?_, atEnd listed j tm a w B S inv hnb s hall⟩
    cases hr : Region.ready .any l.toArray listed with
    | nil => rfl
    | cons i rs =>
      exfalso
      have hm : i ∈ Region.ready .any l.toArray listed := by rw [hr]; simp
      obtain ⟨h1, h2, _⟩ := mem_ready' hm
      have := hall i h2
      unfold Lst at this
      simp only [Array.getD_eq_getD_getElem?] at this h1
      have hlt : i < listed.size := by rw [inv.size]; exact h2
      simp only [Array.getElem?_eq_getElem hlt, Option.getD_some] at this h1
      rw [this] at h1; cases h1
  | succ fuel ih =>
    intro listed j tm a w B S inv hnb s hf
    refine ⟨fun hr => atEnd listed j tm a w B S inv hnb s (ready_of hk inv.size hr), ?_⟩
    intro i hi
    obtain ⟨hun, hil, haft⟩ := mem_ready' hi
    have hlt : i < listed.size := by rw [inv.size]; exact hil
    have hnot : ¬ Lst listed i := by
      unfold Lst
      simp only [Array.getD_eq_getD_getElem?, Array.getElem?_eq_getElem hlt, Option.getD_some] at hun ⊢
      rw [hun]; simp
    obtain ⟨o, ho⟩ : ∃ o, l[i]? = some o := ⟨l[i], List.getElem?_eq_getElem hil⟩
    have hanc : ∀ k ∈ tab.getD i [], Lst listed k := by
      intro k hk'
      obtain ⟨e, he, hke⟩ := hk.anc i hil k hk'
      rcases hke with rfl | hke
      · exact haft k he
      · exact inv.closed e (haft e he) k hke
    obtain ⟨hev, hwant⟩ := opgood_op hsm hk inv ho hanc hT
    -- the next stage
    have hnanc : ∀ b ∈ bad, b ∉ tab.getD (0 + i) [] := by intro b hb hm; rw [Nat.zero_add] at hm; exact hnb b hb (hanc b hm)
    have hoi : (l.toArray)[i]? = some o := by simpa using ho
    by_cases hib : bad.contains i = true
    · have hpan : PanGood P l T Q (Hs.getD j []) o := by
        obtain ⟨g1, g2⟩ := good.get i o ho hnanc
        simp only [Nat.zero_add, hib, if_true] at g1 g2
        by_cases hie : i ∈ effs
        · have hidx : effs.idxOf i < effs.length := List.idxOf_lt_length_of_mem hie
          have hix : effs[effs.idxOf i] = i := List.getElem_idxOf hidx
          have hle : effs.idxOf i ≤ j := by
            rcases Nat.lt_or_ge j (effs.idxOf i) with h | h
            · exfalso
              have hjl : j < effs.length := by omega
              have hm : effs[j] ∈ effs.take (effs.idxOf i) := List.mem_take_iff_getElem.2 ⟨j, by omega, rfl⟩
              have h1 := hanc _ (hk.ord i hil hie _ hm)
              have h2 := (inv.ef _ (List.getElem_mem hjl)).1 h1
              obtain ⟨k, hk1, hk2⟩ := List.mem_take_iff_getElem.1 h2
              have := (List.getElem_inj hk.nodup).1 hk2
              omega
            · exact h
          have hge : j ≤ effs.idxOf i := by
            rcases Nat.lt_or_ge (effs.idxOf i) j with h | h
            · exfalso
              exact hnot ((inv.ef i hie).2 (List.mem_take_iff_getElem.2 ⟨effs.idxOf i, by omega, hix⟩))
            · exact h
          have hje : j = effs.idxOf i := by omega
          have := g1 (by simpa using hie)
          rw [← hje] at this; exact this
        · refine g2 (by simpa using hie) j ?_ ?_
          · rw [hk.win i hil]
            refine filter_len hk.nodup (fun e he hc => ?_)
            exact (inv.ef e he).1 (hanc e (by simpa using hc))
          · rw [hk.win i hil]
            rcases Nat.lt_or_ge (winHi tab effs i) j with h | h
            · exfalso
              obtain ⟨e, he, hpe⟩ := takeWhile_len (p := fun e => !(tab.getD e []).contains i) effs j h inv.jle
              have hee : e ∈ effs := List.mem_of_mem_take he
              have h1 := (inv.ef e hee).2 he
              have h2 : i ∈ tab.getD e [] := by simpa using hpe
              exact hnot (inv.closed e h1 i h2)
            · exact h
      unfold wpOp
      rw [hoi]
      simp only
      unfold PanGood at hpan
      cases hw : aWanted l T o with
      | none => rw [hw] at hpan; exact hpan.elim
      | some b =>
        rw [hw] at hpan
        rw [s.wanted (hwant.trans hw)]
        cases b with
        | false => exact hpan.elim
        | true =>
          simp only at hpan
          simp only [if_true]
          refine .inl ?_
          have hstep : aStep P tm (Hs.getD j []) o = aStep P T (Hs.getD j []) o := aStep_congr hev
          cases hs : aStep P T (Hs.getD j []) o with
          | next v H1 => rw [hs] at hpan; exact hpan.elim
          | run => rw [hs] at hpan; exact hpan.elim
          | pan x =>
            rw [hs] at hpan
            simp only at hpan
            obtain ⟨v, hrun, hx⟩ := step_pan s (hstep.trans hs)
            unfold Oper.wp
            rw [hrun]
            exact ⟨.pan x, tm, _, B, S, hpan tm, s, v, rfl, hx⟩
          | enter f args =>
            rw [hs] at hpan
            simp only at hpan
            obtain ⟨x, H', ⟨hcall, hrunA⟩, hq⟩ := hpan
            obtain ⟨vs, hrun, hargs⟩ := enter_args s (hstep.trans hs) hcall
            unfold Oper.wp
            rw [hrun]
            refine (hrunA w B S vs s.hrel hargs).mono (fun e w' hew => ?_)
            obtain ⟨B', S', st, hr, he⟩ := hew
            cases e with
            | returned v => exact he.elim
            | panicked c => exact ⟨.pan x, tm, H', B', S', hq tm, s.mono st hr, he⟩
            | outgrown => exact he.elim
    obtain ⟨j', hj', hgood, hef'⟩ : ∃ j', j' ≤ effs.length ∧ OpGood P l T (Hs.getD j []) o (Hs.getD j' []) ∧ (∀ e ∈ effs, (e = i ∨ Lst listed e ↔ e ∈ effs.take j')) := by
      obtain ⟨g1, g2⟩ := good.get i o ho hnanc
      simp only [Nat.zero_add] at g1 g2
      simp only [if_neg hib] at g1 g2
      by_cases hie : i ∈ effs
      · have hidx : effs.idxOf i < effs.length := List.idxOf_lt_length_of_mem hie
        have hix : effs[effs.idxOf i] = i := List.getElem_idxOf hidx
        have hle : effs.idxOf i ≤ j := by
          rcases Nat.lt_or_ge j (effs.idxOf i) with h | h
          · exfalso
            have hjl : j < effs.length := by omega
            have hm : effs[j] ∈ effs.take (effs.idxOf i) := List.mem_take_iff_getElem.2 ⟨j, by omega, rfl⟩
            have h1 := hanc _ (hk.ord i hil hie _ hm)
            have h2 := (inv.ef _ (List.getElem_mem hjl)).1 h1
            obtain ⟨k, hk1, hk2⟩ := List.mem_take_iff_getElem.1 h2
            have := (List.getElem_inj hk.nodup).1 hk2
            omega
          · exact h
        have hge : j ≤ effs.idxOf i := by
          rcases Nat.lt_or_ge (effs.idxOf i) j with h | h
          · exfalso
            exact hnot ((inv.ef i hie).2 (List.mem_take_iff_getElem.2 ⟨effs.idxOf i, by omega, hix⟩))
          · exact h
        have hje : j = effs.idxOf i := by omega
        refine ⟨j + 1, by omega, ?_, ?_⟩
        · have := g1 (by simpa using hie)
          rw [← hje] at this; exact this
        · intro e he
          have hjl : j < effs.length := by omega
          have htake : effs.take (j + 1) = effs.take j ++ [i] := by
            rw [List.take_succ_eq_append_getElem hjl]
            congr 2
            have : effs[j] = effs[effs.idxOf i] := by congr 1
            rw [this, hix]
          rw [htake, List.mem_append, List.mem_singleton, inv.ef e he, Or.comm]
      · refine ⟨j, inv.jle, ?_, ?_⟩
        · refine g2 (by simpa using hie) j ?_ ?_
          · rw [hk.win i hil]
            refine filter_len hk.nodup (fun e he hc => ?_)
            exact (inv.ef e he).1 (hanc e (by simpa using hc))
          · rw [hk.win i hil]
            rcases Nat.lt_or_ge (winHi tab effs i) j with h | h
            · exfalso
              obtain ⟨e, he, hpe⟩ := takeWhile_len (p := fun e => !(tab.getD e []).contains i) effs j h inv.jle
              have hee : e ∈ effs := List.mem_of_mem_take he
              have h1 := (inv.ef e hee).2 he
              have h2 : i ∈ tab.getD e [] := by simpa using hpe
              exact hnot (inv.closed e h1 i h2)
            · exact h
        · intro e he
          rw [← inv.ef e he]
          constructor
          · rintro (rfl | h)
            · exact absurd he hie
            · exact h
          · exact .inr
    -- the state behind it
    have next : ∀ (v : AV), (∀ d, o.dst = some d → T[d]? = some v) → DInv l tab effs T tm0 (listed.setIfInBounds i true) j' (aput tm o.dst v) := by
      intro v hv
      have hdi : opDst l i = o.dst := by unfold opDst; rw [ho]; rfl
      refine ⟨by simpa using inv.size, ?_, ?_, hj', ?_, ?_, ?_⟩
      · intro k hk1 k' hk2
        rw [lst_set hlt] at hk1 ⊢
        rcases hk1 with rfl | hk1
        · exact .inr (hanc k' hk2)
        · exact .inr (inv.closed k hk1 k' hk2)
      · intro e he
        rw [lst_set hlt]
        exact hef' e he
      · cases o.dst <;> simp [aput, inv.len]
      · intro k d hk1 hd
        rw [lst_set hlt] at hk1
        cases hod : o.dst with
        | none =>
          simp only [aput]
          rcases hk1 with rfl | hk1
          · rw [hdi, hod] at hd; cases hd
          · exact inv.done k d hk1 hd
        | some d' =>
          simp only [aput]
          by_cases e : d' = d
          · subst e
            have hTd := hv d' hod
            rw [hTd]
            have : d' < tm.length := by rw [inv.len, ← hTl]; exact (List.getElem?_eq_some_iff.1 hTd).1
            simp [this]
          · rw [List.getElem?_set, if_neg e]
            rcases hk1 with rfl | hk1
            · rw [hdi, hod] at hd; simp only [Option.some.injEq] at hd; exact absurd hd e
            · exact inv.done k d hk1 hd
      · intro d hd
        have h1 : o.dst ≠ some d := by
          have := hd i ((lst_set hlt).2 (.inl rfl))
          rwa [hdi] at this
        have h2 : ∀ k, Lst listed k → opDst l k ≠ some d := fun k hk' => hd k ((lst_set hlt).2 (.inr hk'))
        cases hod : o.dst with
        | none => simp only [aput]; exact inv.rest d h2
        | some d' =>
          simp only [aput]
          rw [List.getElem?_set, if_neg (fun e => h1 (by rw [hod, e]))]
          exact inv.rest d h2
    have hfuel : ((List.range l.length).filter fun k => !(listed.setIfInBounds i true).getD k false).length ≤ fuel := by
      have hsub : ((List.range l.length).filter fun k => !(listed.setIfInBounds i true).getD k false) = ((List.range l.length).filter fun k => !listed.getD k false).filter (fun k => k != i) := by
        rw [List.filter_filter]
        apply List.filter_congr
        intro k hk'
        have := lst_set (listed := listed) (i := i) (k := k) hlt
        unfold Lst at this
        by_cases e : k = i
        · subst e
          have h := this.2 (.inl rfl)
          rw [h]; simp
        · have h : (listed.setIfInBounds i true).getD k false = listed.getD k false := by
            rw [Bool.eq_iff_iff, this]
            constructor
            · rintro (h | h)
              · exact absurd h e
              · exact h
            · exact .inr
          rw [h]; simp [e]
      rw [hsub]
      have hmem : i ∈ (List.range l.length).filter fun k => !listed.getD k false := by
        rw [List.mem_filter]
        refine ⟨by simpa using hil, ?_⟩
        unfold Lst at hnot
        simpa using hnot
      have hlt' : (((List.range l.length).filter fun k => !listed.getD k false).filter (fun k => k != i)).length < ((List.range l.length).filter fun k => !listed.getD k false).length := by
        apply List.length_filter_lt_length_iff_exists.2
        exact ⟨i, hmem, by simp⟩
      omega
    have go : ∀ (v : AV) (x : Value) (w' : World) (B' : BMap) (S' : Nat → Prop), (∀ d, o.dst = some d → T[d]? = some v) → Sim w0 B0 S0 H0 D tm (Hs.getD j' []) a w' B' S' → ARel w' B' S' (Hs.getD j' []) v x →
        wpAny P .any l.toArray (LiftQ w0 B0 S0 H0 D Q) fuel (listed.setIfInBounds i true) (a.put o.dst x) w' := by
      intro v x w' B' S' hv s' hx
      refine ih _ j' _ _ _ _ _ (next v hv) (fun b hb hl => ?_) (s'.put o.dst hx) hfuel
      rw [lst_set hlt] at hl
      rcases hl with rfl | hl
      · exact hib (by simpa using hb)
      · exact hnb b hb hl
    unfold wpOp
    rw [hoi]
    simp only
    unfold OpGood at hgood
    cases hw : aWanted l T o with
    | none => rw [hw] at hgood; exact hgood.elim
    | some b =>
      rw [hw] at hgood
      rw [s.wanted (hwant.trans hw)]
      cases b with
      | false =>
        simp only at hgood
        simp only [Bool.false_eq_true, if_false]
        obtain ⟨h1, h2⟩ := hgood
        exact go (.tup []) undef w B S h1 (by rw [h2]; exact s) (by rw [h2]; exact undef_rel)
      | true =>
        simp only at hgood
        simp only [if_true]
        refine .inl ?_
        have hstep : aStep P tm (Hs.getD j []) o = aStep P T (Hs.getD j []) o := aStep_congr hev
        cases hs : aStep P T (Hs.getD j []) o with
        | next v H1 =>
          rw [hs] at hgood
          simp only at hgood
          obtain ⟨h1, h2⟩ := hgood
          obtain ⟨r, w', B', S', hrun, st, hr, hv⟩ := step_next s.hrel s.ev (hstep.trans hs)
          rw [← h2] at st hr hv
          have s' := s.mono st hr
          unfold Oper.wp
          rcases hrun with hrun | ⟨hrun, rfl⟩
          · rw [hrun]; exact go v r w' B' S' h1 s' hv
          · rw [hrun]; exact go v undef w' B' S' h1 s' hv
        | pan x => rw [hs] at hgood; exact hgood.elim
        | enter f args =>
          rw [hs] at hgood
          simp only at hgood
          obtain ⟨v, ⟨hcall, hrunA⟩, h1⟩ := hgood
          obtain ⟨vs, hrun, hargs⟩ := enter_args s (hstep.trans hs) hcall
          unfold Oper.wp
          rw [hrun]
          refine (hrunA w B S vs s.hrel hargs).mono (fun e w' hew => ?_)
          obtain ⟨B', S', st, hr, he⟩ := hew
          cases e with
          | returned x => exact go v x w' B' S' h1 (s.mono st hr) he
          | panicked c => exact he.elim
          | outgrown => exact he.elim
        | run =>
          rw [hs] at hgood
          simp only at hgood
          obtain ⟨hc, r, hrun, h1, h2⟩ := hgood
          have hsel := hk.sel i o ho
          rcases aConcs_congr (tm := tm) (tm' := T) hev with ⟨e1, e2⟩ | e
          · have heq : execOp a.eval o = execOp (aRho tm) o := run_eq s (by rw [e1]; exact hc) hsel
            unfold Oper.wp
            rw [heq, e2, hrun w]
            exact go (.ofV r) r w B S h1 (by rw [h2]; exact s) (by rw [h2]; exact .ofV r)
          · rw [hsel] at e; cases e
end
end Go.Proofs.YtpfjlifneibhfaaGreat.AL
namespace Go.Proofs.YtpfjlifneibhfaaGreat.AL
variable [G : GTab]
section
variable {P : Program} {w0 : World} {B0 : BMap} {S0 : Nat → Prop} {H0 : List AObj} {D : List Deferred} {Q : AEx → List AV → List AObj → Prop} {tm : List AV} {H : List AObj} {a : Act} {w : World} {B : BMap} {S : Nat → Prop}
theorem same_step {w' : World} (h : w'.heap = w.heap) (h1 : w'.os = w.os) (h2 : w'.tape = w.tape) (h3 : w'.output = w.output) : Step w B S H w' B S H :=
  ⟨h1, h2, h3, by rw [h]; exact Nat.le_refl _, fun _ h => h, fun _ _ => by rw [h], Nat.le_refl _, fun id t sz rows h => .inr ⟨rows, h, Nat.le_refl _, fun _ => rfl⟩, fun id _ h => ⟨rfl, h⟩⟩
theorem same_hrel {w' : World} (h : w'.heap = w.heap) (st : Step w B S H w' B S H) (hr : HRel w B S H) : HRel w' B S H :=
  ⟨fun id o ho => (hr.obj id o ho).keep st rfl (fun b c _ => by rw [h]), hr.inj, hr.sep, fun b hb => by rw [h]; exact hr.bound b hb, hr.glob.mono (fun _ h => h) st.keep⟩
theorem Sim.drawn (s : Sim w0 B0 S0 H0 D tm H a w B S) : Sim w0 B0 S0 H0 D tm H a { w with drawn := w.drawn + 1 } B S := by
  have st : Step w B S H { w with drawn := w.drawn + 1 } B S H := same_step rfl rfl rfl rfl
  exact s.mono st (same_hrel (w := w) rfl st s.hrel)
theorem awp_drawBS {id : Nat} {l : List Oper} {T : List AV} (effs bad : List Nat) (wins : List (Nat × Nat)) (Hs : List (List AObj)) (hm : P.follows .mixedOrders = true)
    (sm : List Tmp) (hok : drawOk l (ancTab l) effs wins sm = true) (hsm : ∀ t ∈ sm, T[t]? = tm[t]?) (hbad : ∀ b ∈ bad, b < l.length)
    (hlen : T.length = tm.length) (hne : ∀ s, (∀ o ∈ l, o.dst ≠ some s) → T[s]? = tm[s]?)
    (hH : Hs.getD 0 [] = H) (good : GoodFrom P l T Hs effs wins (ancTab l) bad Q 0 l)
    (hQ : bad = [] → Q .normal T (Hs.getD effs.length [])) : AWP P H0 (.region id l.toArray true) Q tm H := by
  intro w0 B0 S0 D a w B S s
  subst hH
  have hk := drawOk_spec hok
  refine wp_region_any hm ?_
  have hT : ∀ s, (∀ i, i < l.length → opDst l i ≠ some s) → T[s]? = tm[s]? := by
    intro s hs
    refine hne s (fun o ho hd => ?_)
    obtain ⟨i, hi, rfl⟩ := List.mem_iff_getElem.1 ho
    exact hs i hi (by unfold opDst; rw [List.getElem?_eq_getElem hi]; exact hd)
  have hnone : ∀ i, ¬ Lst (Array.replicate l.length false) i := by
    intro i hi
    unfold Lst at hi
    simp only [Array.getD_eq_getD_getElem?, Array.getElem?_replicate] at hi
    split at hi <;> simp at hi
  have := draw_aux (P := P) (w0 := w0) (B0 := B0) (S0 := S0) (H0 := H0) (D := D) (Q := Q) (tm0 := tm) (bad := bad) (sm := sm) hsm hk hbad good hT hlen hQ l.length (Array.replicate l.length false) 0 tm a { w with drawn := w.drawn + 1 } B S
    ⟨by simp, fun i hi => absurd hi (hnone i), fun e _ => by simp [hnone e], Nat.zero_le _, rfl, fun i d hi => absurd hi (hnone i), fun d _ => rfl⟩ (fun b _ => hnone b) s.drawn
    (by exact Nat.le_trans (List.length_filter_le _ _) (by simp))
  simpa using this
theorem awp_drawB {id : Nat} {l : List Oper} {T : List AV} (effs bad : List Nat) (wins : List (Nat × Nat)) (Hs : List (List AObj)) (hm : P.follows .mixedOrders = true)
    (hok : drawOk l (ancTab l) effs wins = true) (hbad : ∀ b ∈ bad, b < l.length)
    (hlen : T.length = tm.length) (hne : ∀ s, (∀ o ∈ l, o.dst ≠ some s) → T[s]? = tm[s]?)
    (hH : Hs.getD 0 [] = H) (good : GoodFrom P l T Hs effs wins (ancTab l) bad Q 0 l)
    (hQ : bad = [] → Q .normal T (Hs.getD effs.length [])) : AWP P H0 (.region id l.toArray true) Q tm H :=
  awp_drawBS effs bad wins Hs hm [] hok (by simp) hbad hlen hne hH good hQ
/-! ### a plan for a region -/
inductive OpPlan where
  | skip
  | pan (js : List Nat)
  | eff (j : Nat)
  | win (js : List Nat)
  deriving DecidableEq
def winsOf (l : List Oper) (effs : List Nat) : List (Nat × Nat) := (List.range l.length).map fun i => (winLo (ancTab l) effs i, winHi (ancTab l) effs i)
def planAt (tab : List (List Nat)) (effs : List Nat) (wins : List (Nat × Nat)) (bad : List Nat) (i : Nat) : OpPlan :=
  if (bad.any fun b => (tab.getD i []).contains b) = true then .skip else if bad.contains i then
    .pan (if effs.contains i then [effs.idxOf i] else List.range' (wins.getD i (0, 0)).1 ((wins.getD i (0, 0)).2 + 1 - (wins.getD i (0, 0)).1))
  else if effs.contains i then .eff (effs.idxOf i) else .win (List.range' (wins.getD i (0, 0)).1 ((wins.getD i (0, 0)).2 + 1 - (wins.getD i (0, 0)).1))
def planFrom (tab : List (List Nat)) (effs : List Nat) (wins : List (Nat × Nat)) (bad : List Nat) : Nat → Nat → List OpPlan
  | _, 0 => []
  | i, n + 1 => planAt tab effs wins bad i :: planFrom tab effs wins bad (i + 1) n
def planOf (l : List Oper) (effs bad : List Nat) : List OpPlan := planFrom (ancTab l) effs (winsOf l effs) bad 0 l.length
def AllAt (Hs : List (List AObj)) (p : List AObj → Prop) : List Nat → Prop
  | [] => True
  | j :: js => p (Hs.getD j []) ∧ AllAt Hs p js
theorem AllAt.get {Hs : List (List AObj)} {p : List AObj → Prop} : ∀ {js : List Nat}, AllAt Hs p js → ∀ j ∈ js, p (Hs.getD j [])
  | [], _, j, h => by cases h
  | k :: js, h, j, hj => by
    rcases List.mem_cons.1 hj with rfl | hj
    · exact h.1
    · exact h.2.get j hj
def DstIs (T : List AV) (d : Option Tmp) (v : AV) : Prop := match d with
  | some d => T[d]? = some v
  | none => True
def OGE (P : Program) (T : List AV) (d : Option Tmp) (H H' : List AObj) (f : FuncId) (args : List AV) : Prop := ∃ v, ARun P f args H (.ret v H') ∧ DstIs T d v
def OGX (P : Program) (T : List AV) (o : Oper) (H H' : List AObj) : Prop := aConcs T o = true ∧ ∃ r : Value, (∀ w, (execOp (aRho T) o).run P w = .ok (.value r) w) ∧ DstIs T o.dst (.ofV r) ∧ H' = H
def OGR (P : Program) (T : List AV) (o : Oper) (H H' : List AObj) : ARes → Prop
  | .next v H1 => DstIs T o.dst v ∧ H' = H1
  | .run => OGX P T o H H'
  | .enter f args => OGE P T o.dst H H' f args
  | .pan _ => False
def OGW (P : Program) (T : List AV) (o : Oper) (H H' : List AObj) : Option Bool → Prop
  | some true => OGR P T o H H' (aStep P T H o)
  | some false => DstIs T o.dst (.tup []) ∧ H' = H
  | none => False
def PGE (P : Program) (Q : AEx → List AV → List AObj → Prop) (H : List AObj) (f : FuncId) (args : List AV) : Prop := ∃ x H', ARun P f args H (.pan x H') ∧ ∀ tm', Q (.pan x) tm' H'
def PGR (P : Program) (Q : AEx → List AV → List AObj → Prop) (H : List AObj) : ARes → Prop
  | .pan x => ∀ tm', Q (.pan x) tm' H
  | .enter f args => PGE P Q H f args
  | _ => False
def PGW (P : Program) (T : List AV) (Q : AEx → List AV → List AObj → Prop) (H : List AObj) (o : Oper) : Option Bool → Prop
  | some true => PGR P Q H (aStep P T H o)
  | _ => False
theorem oge_intro {T : List AV} {d : Option Tmp} {H H' : List AObj} {f : FuncId} {args : List AV} {v : AV} (h : ARun P f args H (.ret v H')) (k : DstIs T d v) : OGE P T d H H' f args := ⟨v, h, k⟩
theorem pge_intro {H H' : List AObj} {f : FuncId} {args : List AV} {x : AV} (h : ARun P f args H (.pan x H')) (k : ∀ tm', Q (.pan x) tm' H') : PGE P Q H f args := ⟨x, H', h, k⟩
theorem DstIs.all {T : List AV} {d : Option Tmp} {v : AV} (h : DstIs T d v) : ∀ k, d = some k → T[k]? = some v := by
  intro k e; subst e; exact h
theorem opGood_of {l : List Oper} {T : List AV} {H H' : List AObj} {o : Oper} (h : OGW P T o H H' (aWanted l T o)) : OpGood P l T H o H' := by
  unfold OpGood
  cases hw : aWanted l T o with
  | none => rw [hw] at h; exact h
  | some b =>
    rw [hw] at h
    cases b with
    | false => exact ⟨h.1.all, h.2⟩
    | true =>
      simp only [OGW] at h ⊢
      cases hs : aStep P T H o with
      | next v H1 => rw [hs] at h; exact ⟨h.1.all, h.2⟩
      | run => rw [hs] at h; obtain ⟨h1, r, h2, h3, h4⟩ := h; exact ⟨h1, r, h2, h3.all, h4⟩
      | enter f args => rw [hs] at h; obtain ⟨v, h1, h2⟩ := h; exact ⟨v, h1, h2.all⟩
      | pan x => rw [hs] at h; exact h
theorem panGood_of {l : List Oper} {T : List AV} {H : List AObj} {o : Oper} (h : PGW P T Q H o (aWanted l T o)) : PanGood P l T Q H o := by
  unfold PanGood
  cases hw : aWanted l T o with
  | none => rw [hw] at h; exact h
  | some b =>
    rw [hw] at h
    cases b with
    | false => exact h
    | true =>
      simp only [PGW] at h ⊢
      cases hs : aStep P T H o with
      | enter f args => rw [hs] at h; exact h
      | pan x => rw [hs] at h; exact h
      | _ => rw [hs] at h; exact h
def GoodP (P : Program) (l : List Oper) (T : List AV) (Q : AEx → List AV → List AObj → Prop) (Hs : List (List AObj)) : List OpPlan → List Oper → Prop
  | .skip :: ps, _ :: rest => GoodP P l T Q Hs ps rest
  | .pan js :: ps, o :: rest => AllAt Hs (fun H => PGW P T Q H o (aWanted l T o)) js ∧ GoodP P l T Q Hs ps rest
  | .eff j :: ps, o :: rest => OGW P T o (Hs.getD j []) (Hs.getD (j + 1) []) (aWanted l T o) ∧ GoodP P l T Q Hs ps rest
  | .win js :: ps, o :: rest => AllAt Hs (fun H => OGW P T o H H (aWanted l T o)) js ∧ GoodP P l T Q Hs ps rest
  | _, _ => True
theorem GoodP.from {l : List Oper} {T : List AV} {Hs : List (List AObj)} {tab : List (List Nat)} {effs : List Nat} {wins : List (Nat × Nat)} {bad : List Nat} : ∀ {rest : List Oper} {i : Nat},
    GoodP P l T Q Hs (planFrom tab effs wins bad i rest.length) rest → GoodFrom P l T Hs effs wins tab bad Q i rest
  | [], i, _ => trivial
  | o :: rest, i, h => by
    simp only [List.length_cons, planFrom] at h
    unfold GoodFrom
    unfold planAt at h
    split at h
    · rename_i hb
      exact ⟨by rw [if_pos hb]; trivial, GoodP.from h⟩
    · rename_i hb
      rw [if_neg hb]
      split at h
      · rename_i hc
        rw [if_pos hc]
        refine ⟨?_, GoodP.from h.2⟩
        split
        · rename_i he
          rw [if_pos he] at h
          exact panGood_of h.1.1
        · rename_i he
          rw [if_neg he] at h
          exact fun j hj => panGood_of (h.1.get j hj)
      · rename_i hc
        rw [if_neg hc]
        split at h
        · rename_i he
          rw [if_pos he]
          exact ⟨opGood_of h.1, GoodP.from h.2⟩
        · rename_i he
          rw [if_neg he]
          exact ⟨fun j hj => opGood_of (h.1.get j hj), GoodP.from h.2⟩
-- The operations one after the other: what comes to stand in the slots, and which memory there is between.
def AWSeq (P : Program) (l : List Oper) (K : List AV → List AObj → List (List AObj) → Prop) : List OpPlan → List Oper → List AV → List AObj → List (List AObj) → Prop
  | .skip :: ps, o :: rest, tm, H, Hs => AWSeq P l K ps rest (aput tm o.dst .any) H (Hs ++ [H])
  | .pan _ :: ps, o :: rest, tm, H, Hs => AWSeq P l K ps rest (aput tm o.dst .any) H (Hs ++ [H])
  | .eff _ :: ps, o :: rest, tm, H, Hs => match aWanted l tm o with
    | some b => Guarded b (match aStep P tm H o with
      | .next v H' => AWSeq P l K ps rest (aput tm o.dst v) H' (Hs ++ [H'])
      | .enter f args => ∃ v H', ARun P f args H (.ret v H') ∧ (ARun P f args H (.ret v H') → AWSeq P l K ps rest (aput tm o.dst v) H' (Hs ++ [H']))
      | _ => False) (AWSeq P l K ps rest (aput tm o.dst (.tup [])) H (Hs ++ [H]))
    | none => False
  | .win _ :: ps, o :: rest, tm, H, Hs => match aWanted l tm o with
    | some b => Guarded b (match aStep P tm H o with
      | .next v _ => AWSeq P l K ps rest (aput tm o.dst v) H Hs
      | .enter f args => ∃ v, ARun P f args H (.ret v H) ∧ (ARun P f args H (.ret v H) → AWSeq P l K ps rest (aput tm o.dst v) H Hs)
      | .run => ∃ r : Value, (∀ w, (execOp (aRho tm) o).run P w = .ok (.value r) w) ∧ AWSeq P l K ps rest (aput tm o.dst (.ofV r)) H Hs
      | _ => False) (AWSeq P l K ps rest (aput tm o.dst (.tup [])) H Hs)
    | none => False
  | _, [], tm, H, Hs => K tm H Hs
  | _, _, _, _, _ => False
def AWSO (P : Program) (l : List Oper) (K : List AV → List AObj → List (List AObj) → Prop) (e : Bool) (ps : List OpPlan) (o : Oper) (rest : List Oper) (tm : List AV) (H : List AObj) (Hs : List (List AObj)) (v : AV) (H' : List AObj) : Prop :=
  AWSeq P l K ps rest (aput tm o.dst v) (if e then H' else H) (if e then Hs ++ [H'] else Hs)
def AWSR (P : Program) (l : List Oper) (K : List AV → List AObj → List (List AObj) → Prop) (e : Bool) (ps : List OpPlan) (o : Oper) (rest : List Oper) (tm : List AV) (H : List AObj) (Hs : List (List AObj)) : ARes → Prop
  | .next v H' => AWSO P l K e ps o rest tm H Hs v H'
  | .enter f args => if e = true then (∃ v H', ARun P f args H (.ret v H') ∧ (ARun P f args H (.ret v H') → AWSO P l K e ps o rest tm H Hs v H'))
      else ∃ v, ARun P f args H (.ret v H) ∧ (ARun P f args H (.ret v H) → AWSO P l K e ps o rest tm H Hs v H)
  | .run => e = false ∧ ∃ r : Value, (∀ w, (execOp (aRho tm) o).run P w = .ok (.value r) w) ∧ AWSO P l K e ps o rest tm H Hs (.ofV r) H
  | _ => False
def AWSG (P : Program) (l : List Oper) (K : List AV → List AObj → List (List AObj) → Prop) (e : Bool) (ps : List OpPlan) (o : Oper) (rest : List Oper) (tm : List AV) (H : List AObj) (Hs : List (List AObj)) : Option Bool → Prop
  | some b => Guarded b (AWSR P l K e ps o rest tm H Hs (aStep P tm H o)) (AWSO P l K e ps o rest tm H Hs (.tup []) H)
  | none => False
def AWSE (P : Program) (l : List Oper) (K : List AV → List AObj → List (List AObj) → Prop) (ps : List OpPlan) (o : Oper) (rest : List Oper) (tm : List AV) (H : List AObj) (Hs : List (List AObj)) (f : FuncId) (args : List AV) : Prop :=
  ∃ v H', ARun P f args H (.ret v H') ∧ (ARun P f args H (.ret v H') → AWSO P l K true ps o rest tm H Hs v H')
section
variable {l : List Oper} {K : List AV → List AObj → List (List AObj) → Prop} {ps : List OpPlan} {o : Oper} {rest : List Oper} {Hs : List (List AObj)} {e : Bool}
theorem aws_nil : AWSeq P l K [] [] tm H Hs = K tm H Hs := by simp only [AWSeq]
theorem aws_skip : AWSeq P l K (.skip :: ps) (o :: rest) tm H Hs = AWSeq P l K ps rest (aput tm o.dst .any) H (Hs ++ [H]) := by simp only [AWSeq]
theorem aws_pan {js : List Nat} : AWSeq P l K (.pan js :: ps) (o :: rest) tm H Hs = AWSeq P l K ps rest (aput tm o.dst .any) H (Hs ++ [H]) := by simp only [AWSeq]
theorem aws_eff {j : Nat} : AWSeq P l K (.eff j :: ps) (o :: rest) tm H Hs = AWSG P l K true ps o rest tm H Hs (aWanted l tm o) := by
  simp only [AWSeq, AWSG]
  cases aWanted l tm o with
  | none => rfl
  | some b => simp only [AWSR, AWSO, if_true]; cases aStep P tm H o <;> simp
theorem aws_win {js : List Nat} : AWSeq P l K (.win js :: ps) (o :: rest) tm H Hs = AWSG P l K false ps o rest tm H Hs (aWanted l tm o) := by
  simp only [AWSeq, AWSG]
  cases aWanted l tm o with
  | none => rfl
  | some b => simp only [AWSR, AWSO, if_true]; cases aStep P tm H o <;> simp
theorem awsg_true : AWSG P l K e ps o rest tm H Hs (some true) = AWSR P l K e ps o rest tm H Hs (aStep P tm H o) := guarded_true
theorem awsg_false : AWSG P l K e ps o rest tm H Hs (some false) = AWSO P l K e ps o rest tm H Hs (.tup []) H := guarded_false
theorem awsg_split {b : Bool} (h : b = true → AWSG P l K e ps o rest tm H Hs (some true)) (k : b = false → AWSG P l K e ps o rest tm H Hs (some false)) : AWSG P l K e ps o rest tm H Hs (some b) := by
  cases b
  · exact k rfl
  · exact h rfl
theorem awsr_next {v : AV} {H' : List AObj} : AWSR P l K e ps o rest tm H Hs (.next v H') = AWSO P l K e ps o rest tm H Hs v H' := rfl
theorem awsr_enter {f : FuncId} {args : List AV} : AWSR P l K true ps o rest tm H Hs (.enter f args) = AWSE P l K ps o rest tm H Hs f args := by simp [AWSR, AWSE]
def AWSF (P : Program) (l : List Oper) (K : List AV → List AObj → List (List AObj) → Prop) (ps : List OpPlan) (o : Oper) (rest : List Oper) (tm : List AV) (H : List AObj) (Hs : List (List AObj)) (f : FuncId) (args : List AV) : Prop :=
  ∃ v, ARun P f args H (.ret v H) ∧ (ARun P f args H (.ret v H) → AWSO P l K false ps o rest tm H Hs v H)
theorem awsr_enterF {f : FuncId} {args : List AV} : AWSR P l K false ps o rest tm H Hs (.enter f args) = AWSF P l K ps o rest tm H Hs f args := by simp [AWSR, AWSF]
theorem awsf_intro {f : FuncId} {args : List AV} {v : AV} (h : ARun P f args H (.ret v H)) (k : ARun P f args H (.ret v H) → AWSO P l K false ps o rest tm H Hs v H) : AWSF P l K ps o rest tm H Hs f args := ⟨v, h, k⟩
theorem awso_true {v : AV} {H' : List AObj} : AWSO P l K true ps o rest tm H Hs v H' = AWSeq P l K ps rest (aput tm o.dst v) H' (Hs ++ [H']) := by simp [AWSO]
theorem awso_false {v : AV} {H' : List AObj} : AWSO P l K false ps o rest tm H Hs v H' = AWSeq P l K ps rest (aput tm o.dst v) H Hs := by simp [AWSO]
theorem awse_intro {f : FuncId} {args : List AV} {v : AV} {H' : List AObj} (h : ARun P f args H (.ret v H')) (k : ARun P f args H (.ret v H') → AWSO P l K true ps o rest tm H Hs v H') : AWSE P l K ps o rest tm H Hs f args := ⟨v, H', h, k⟩
end
theorem aput_len (tm : List AV) (d : Option Tmp) (v : AV) : (aput tm d v).length = tm.length := by cases d <;> simp [aput]
theorem aput_ne (tm : List AV) (d : Option Tmp) (v : AV) (s : Nat) (h : d ≠ some s) : (aput tm d v)[s]? = tm[s]? := by
  cases d with
  | none => rfl
  | some d => simp only [aput]; rw [List.getElem?_set, if_neg (fun e => h (by rw [e]))]
theorem AWSeq.out {l : List Oper} {K : List AV → List AObj → List (List AObj) → Prop} : ∀ {rest : List Oper} {ps : List OpPlan} {tm : List AV} {H : List AObj} {Hs : List (List AObj)}, AWSeq P l K ps rest tm H Hs →
    ∃ T H' Hs', T.length = tm.length ∧ (∀ s, (∀ o ∈ rest, o.dst ≠ some s) → T[s]? = tm[s]?) ∧ K T H' Hs'
  | [], ps, tm, H, Hs, h => by
    refine ⟨tm, H, Hs, rfl, fun _ _ => rfl, ?_⟩
    cases ps with
    | nil => exact h
    | cons p ps => cases p <;> exact h
  | o :: rest, ps, tm, H, Hs, h => by
    have go : ∀ {v : AV} {ps : List OpPlan} {H1 : List AObj} {Hs1 : List (List AObj)}, AWSeq P l K ps rest (aput tm o.dst v) H1 Hs1 →
        ∃ T H' Hs', T.length = tm.length ∧ (∀ s, (∀ o' ∈ o :: rest, o'.dst ≠ some s) → T[s]? = tm[s]?) ∧ K T H' Hs' := by
      intro v ps H1 Hs1 h
      obtain ⟨T, H', Hs', h1, h2, h3⟩ := AWSeq.out h
      refine ⟨T, H', Hs', by rw [h1, aput_len], fun s hs => ?_, h3⟩
      rw [h2 s (fun o' ho' => hs o' (by simp [ho'])), aput_ne _ _ _ _ (hs o (by simp))]
    cases ps with
    | nil => exact h.elim
    | cons p ps =>
      cases p with
      | skip => exact go h
      | pan js => exact go h
      | eff j =>
        rw [aws_eff] at h
        cases hw : aWanted l tm o with
        | none => rw [hw] at h; exact h.elim
        | some b =>
          rw [hw] at h
          cases b with
          | false => rw [awsg_false, awso_true] at h; exact go h
          | true =>
            rw [awsg_true] at h
            cases hs : aStep P tm H o with
            | next v H' => rw [hs, awsr_next, awso_true] at h; exact go h
            | pan x => rw [hs] at h; exact h.elim
            | enter f args =>
              rw [hs, awsr_enter] at h
              obtain ⟨v, H', h1, h2⟩ := h
              have h3 := h2 h1
              rw [awso_true] at h3
              exact go h3
            | run => rw [hs] at h; exact absurd h.1 (by simp)
      | win js =>
        rw [aws_win] at h
        cases hw : aWanted l tm o with
        | none => rw [hw] at h; exact h.elim
        | some b =>
          rw [hw] at h
          cases b with
          | false => rw [awsg_false, awso_false] at h; exact go h
          | true =>
            rw [awsg_true] at h
            cases hs : aStep P tm H o with
            | next v H' => rw [hs, awsr_next, awso_false] at h; exact go h
            | pan x => rw [hs] at h; exact h.elim
            | enter f args =>
              rw [hs, awsr_enterF] at h
              obtain ⟨v, h1, h2⟩ := h
              have h3 := h2 h1
              rw [awso_false] at h3
              exact go h3
            | run =>
              rw [hs] at h
              obtain ⟨_, r, _, h2⟩ := h
              rw [awso_false] at h2
              exact go h2
/-- A region that draws its order, one after the other. -/
theorem awp_drawn {id : Nat} {l : List Oper} (effs bad : List Nat) (plan : List OpPlan) (ne : Nat) (hm : P.follows .mixedOrders = true)
    (hok : (drawOk l (ancTab l) effs (winsOf l effs) && bad.all (· < l.length) && decide (planOf l effs bad = plan) && effs.length == ne) = true)
    (h : AWSeq P l (fun T H' Hs => Hs.getD 0 [] = H ∧ GoodP P l T Q Hs plan l ∧ (bad = [] → Q .normal T (Hs.getD ne []))) plan l tm H [H]) : AWP P H0 (.region id l.toArray true) Q tm H := by
  simp only [Bool.and_eq_true, List.all_eq_true, decide_eq_true_eq, beq_iff_eq] at hok
  obtain ⟨⟨⟨hok, hbad⟩, rfl⟩, rfl⟩ := hok
  obtain ⟨T, H', Hs, h1, h2, h3, h4, h5⟩ := h.out
  exact awp_drawB effs bad _ Hs hm hok hbad h1 h2 h3 (GoodP.from h4) h5
theorem awp_drawn_k {id : Nat} {l : List Oper} (effs bad : List Nat) (plan : List OpPlan) (ne : Nat) (hm : P.follows .mixedOrders = true)
    (hok : (drawOk l (ancTab l) effs (winsOf l effs) && bad.all (· < l.length) && decide (planOf l effs bad = plan) && effs.length == ne) = true)
    (h : ∀ (Kn : List AV → List AObj → Prop) (Kp : AV → List AV → List AObj → Prop), (∀ tm H, Q .normal tm H → Kn tm H) → (∀ x tm H, Q (.pan x) tm H → Kp x tm H) →
      AWSeq P l (fun T H' Hs => Hs.getD 0 [] = H ∧ GoodP P l T (AEx.two Kn Kp) Hs plan l ∧ (bad = [] → Kn T (Hs.getD ne []))) plan l tm H [H]) : AWP P H0 (.region id l.toArray true) Q tm H := by
  refine awp_mono (awp_drawn (Q := AEx.two (Q .normal) (fun x => Q (.pan x))) effs bad plan ne hm hok (h (Q .normal) (fun x => Q (.pan x)) (fun _ _ h => h) (fun _ _ _ h => h))) ?_
  intro e tm H hq
  cases e <;> first | exact hq | exact hq.elim
/-- So many slots hold the same. -/
def SameAt : List Tmp → List AV → List AV → Prop
  | [], _, _ => True
  | t :: r, T, tm => T[t]? = tm[t]? ∧ SameAt r T tm
theorem SameAt.get : ∀ {sm : List Tmp} {T tm : List AV}, SameAt sm T tm → ∀ t ∈ sm, T[t]? = tm[t]?
  | [], _, _, _, t, ht => by cases ht
  | s :: r, T, tm, h, t, ht => by
    rcases List.mem_cons.1 ht with rfl | ht
    · exact h.1
    · exact SameAt.get h.2 t ht
/-- .. where slots that are written behind their reading hold the same as before. -/
theorem awp_drawnS_k {id : Nat} {l : List Oper} (effs bad : List Nat) (plan : List OpPlan) (ne : Nat) (sm : List Tmp) (hm : P.follows .mixedOrders = true)
    (hok : (drawOk l (ancTab l) effs (winsOf l effs) sm && bad.all (· < l.length) && decide (planOf l effs bad = plan) && effs.length == ne) = true)
    (h : ∀ (Kn : List AV → List AObj → Prop) (Kp : AV → List AV → List AObj → Prop), (∀ tm H, Q .normal tm H → Kn tm H) → (∀ x tm H, Q (.pan x) tm H → Kp x tm H) →
      AWSeq P l (fun T H' Hs => Hs.getD 0 [] = H ∧ SameAt sm T tm ∧ GoodP P l T (AEx.two Kn Kp) Hs plan l ∧ (bad = [] → Kn T (Hs.getD ne []))) plan l tm H [H]) : AWP P H0 (.region id l.toArray true) Q tm H := by
  simp only [Bool.and_eq_true, List.all_eq_true, decide_eq_true_eq, beq_iff_eq] at hok
  obtain ⟨⟨⟨hok, hbad⟩, rfl⟩, rfl⟩ := hok
  refine awp_mono (Q := AEx.two (Q .normal) (fun x => Q (.pan x))) ?_ ?_
  · obtain ⟨T, H', Hs, h1, h2, h3, hs, h4, h5⟩ := (h (Q .normal) (fun x => Q (.pan x)) (fun _ _ h => h) (fun _ _ _ h => h)).out
    exact awp_drawBS effs bad _ Hs hm sm hok hs.get hbad h1 h2 h3 (GoodP.from h4) h5
  · intro e tm H hq
    cases e <;> first | exact hq | exact hq.elim
end
end Go.Proofs.YtpfjlifneibhfaaGreat.AL
namespace Go.Proofs.YtpfjlifneibhfaaGreat.AL
variable [G : GTab]
/-- A call that waits. -/
structure ADef where
  f : FuncId
  args : List AV
def DRel (w : World) (B : BMap) (S : Nat → Prop) (H : List AObj) (ad : ADef) (d : Deferred) : Prop :=
  ∃ (cs vs : List Value), d = { target := .fn (.func ad.f) cs.toArray, args := vs.toArray } ∧ ARelL w B S H ad.args (vs ++ cs)
def DRels (w : World) (B : BMap) (S : Nat → Prop) (H : List AObj) : List ADef → List Deferred → Prop
  | [], [] => True
  | x :: xs, d :: ds => DRel w B S H x d ∧ DRels w B S H xs ds
  | _, _ => False
/-- How the frame below a deferred call stands: it returns, or it panics with a value. -/
def MRel (w : World) (B : BMap) (S : Nat → Prop) (H : List AObj) : Option AV → FrameMode → Prop
  | none, m => m = .returning
  | some x, m => ∃ v, m = .panicking [{ v := v, recovered := false }] ∧ ARel w B S H x v
/-- A deferred call: it returns; a panic is recovered. -/
structure ARunD (P : Program) (f : FuncId) (args : List AV) (H : List AObj) (u : Option AV) (H' : List AObj) : Prop where
  call : ∀ xs w, (callFunc f xs).run P w = .ok (.enter f xs) w
  run : ∀ w B S vs mode, HRel w B S H → ARelL w B S H args vs → MRel w B S H u mode → CallsD P f vs.toArray mode w fun e u' w' =>
    (∃ x, e = .returned x) ∧ settle u' = .returning ∧ ∃ B' S', Step w B S H w' B' S' H' ∧ HRel w' B' S' H'
def LiftD (w0 : World) (B0 : BMap) (S0 : Nat → Prop) (H0 : List AObj) (Q : AEx → List AV → List AObj → List ADef → Prop) : Exit → Act → World → Prop :=
  fun e a w => ∃ x tm H B S D AD, Q x tm H AD ∧ Sim w0 B0 S0 H0 D tm H a w B S ∧ DRels w B S H AD D ∧ XRel w B S H x e
def AWPD (P : Program) (H0 : List AObj) (c : Code) (Q : AEx → List AV → List AObj → List ADef → Prop) (tm : List AV) (H : List AObj) (AD : List ADef) : Prop :=
  ∀ w0 B0 S0 D a w B S, Sim w0 B0 S0 H0 D tm H a w B S → DRels w B S H AD D → c.wp P (LiftD w0 B0 S0 H0 Q) a w
section
variable {P : Program} {w0 : World} {B0 : BMap} {S0 : Nat → Prop} {H0 : List AObj} {D : List Deferred} {tm : List AV} {H : List AObj} {a : Act} {w : World} {B : BMap} {S : Nat → Prop} {AD : List ADef}
theorem DRels.mono {w' : World} {B' : BMap} {S' : Nat → Prop} {H' : List AObj} (st : Step w B S H w' B' S' H') : ∀ {xs : List ADef} {ds : List Deferred}, DRels w B S H xs ds → DRels w' B' S' H' xs ds
  | [], [], _ => trivial
  | [], _ :: _, h => h.elim
  | _ :: _, [], h => h.elim
  | x :: xs, d :: ds, h => by
    obtain ⟨⟨cs, vs, h1, h2⟩, h3⟩ := h
    exact ⟨⟨cs, vs, h1, h2.mono st⟩, DRels.mono st h3⟩
variable {Q : AEx → List AV → List AObj → List ADef → Prop}
/-- Code without a defer. -/
theorem awpd_of {c : Code} {Q' : AEx → List AV → List AObj → Prop} (h : AWP P H c Q' tm H) (hq : ∀ x tm H, Q' x tm H → Q x tm H AD) : AWPD P H0 c Q tm H AD := by
  intro w0 B0 S0 D a w B S s hd
  have s1 : Sim w B S H D tm H a w B S := ⟨s.hrel, Step.refl _ _ _ _, s.hrel, s.tmps, s.defers⟩
  refine wp_mono (h w B S D a w B S s1) ?_
  rintro e a' w' ⟨x, tm', H', B', S', hq', s', hx⟩
  exact ⟨x, tm', H', B', S', D, AD, hq _ _ _ hq', ⟨s.entry, s.step.trans s'.step, s'.hrel, s'.tmps, s'.defers⟩, hd.mono s'.step, hx⟩
def AEx.thnD (next : List AV → List AObj → List ADef → Prop) (Q : AEx → List AV → List AObj → List ADef → Prop) : AEx → List AV → List AObj → List ADef → Prop
  | .normal, tm, H, AD => next tm H AD
  | e, tm, H, AD => Q e tm H AD
theorem awpd_seq {x y : Code} (h : AWPD P H0 x (AEx.thnD (AWPD P H0 y Q) Q) tm H AD) : AWPD P H0 (.seq x y) Q tm H AD := by
  intro w0 B0 S0 D a w B S s hd
  refine wp_seq (wp_mono (h w0 B0 S0 D a w B S s hd) ?_)
  rintro e a' w' ⟨x, tm', H', B', S', D', AD', hq, s', hd', hx⟩
  cases x <;> cases e <;> simp only [XRel] at hx <;> try (exact hx.elim)
  case normal.normal => exact hq w0 B0 S0 D' a' w' B' S' s' hd'
  case exit.exit => exact ⟨_, _, _, _, _, _, _, hq, s', hd', hx⟩
  case goto.goto => exact ⟨_, _, _, _, _, _, _, hq, s', hd', hx⟩
  case ret.ret => exact ⟨.ret, _, _, _, _, _, _, hq, s', hd', trivial⟩
  case pan.panic => exact ⟨_, _, _, _, _, _, _, hq, s', hd', hx⟩
theorem awpd_cond {c : Operand} {x y : Code} {b : Bool} (hc : aev tm c = .pv (.sc (.bool b))) (h1 : b = true → AWPD P H0 x Q tm H AD) (h2 : b = false → AWPD P H0 y Q tm H AD) :
    AWPD P H0 (.cond c x y) Q tm H AD := by
  intro w0 B0 S0 D a w B S s hd
  have hv := s.ev c
  rw [hc] at hv
  exact wp_cond_split (t := b) (sc_eq hv) (fun hb => h1 hb w0 B0 S0 D a w B S s hd) (fun hb => h2 hb w0 B0 S0 D a w B S s hd)
theorem awpd_ret (h : Q .ret tm H AD) : AWPD P H0 .ret Q tm H AD :=
  fun w0 B0 S0 D a w B S s hd => wp_ret ⟨.ret, tm, H, B, S, D, AD, h, s, hd, trivial⟩
theorem awpd_skip (h : Q .normal tm H AD) : AWPD P H0 .skip Q tm H AD :=
  fun w0 B0 S0 D a w B S s hd => wp_skip ⟨.normal, tm, H, B, S, D, AD, h, s, hd, trivial⟩
/-- A region of plain operations that ends in a defer. -/
def AWLD (P : Program) (ops : List Oper) (K : List AV → List AObj → ADef → Prop) : List Oper → List AV → List AObj → Prop
  | [], _, _ => False
  | o :: rest, tm, H =>
    match o.guard with
    | some _ => False
    | none => match o.op with
      | .defer c => rest = [] ∧ (match c.callee with
        | .value f => match aev tm f with
          | .fn (.func g) fi ca => K (aput tm o.dst (.tup [])) H ⟨g, fi ++ c.args.toList.map (aev tm) ++ ca⟩
          | _ => False
        | _ => False)
      | _ => match aStep P tm H o with
        | .next v H' => AWLD P ops K rest (aput tm o.dst v) H'
        | _ => False
theorem awld_sound {ops : List Oper} {K : List AV → List AObj → ADef → Prop} {R : Exit → Act → World → Prop} : ∀ (l : List Oper) (tm : List AV) (H : List AObj) (a : Act) (w : World) (B : BMap) (S : Nat → Prop),
    AWLD P ops K l tm H → Sim w0 B0 S0 H0 D tm H a w B S →
    (∀ tm' H' ad a' w' B' S' d, K tm' H' ad → Sim w0 B0 S0 H0 (d :: D) tm' H' a' w' B' S' → DRel w' B' S' H' ad d → Step w B S H w' B' S' H' → R .normal a' w') →
    wpList P ops.toArray R l a w
  | [], tm, H, a, w, B, S, h, s, hR => h.elim
  | o :: rest, tm, H, a, w, B, S, h, s, hR => by
    have ih := awld_sound (ops := ops) (K := K) (R := R) rest
    unfold AWLD at h
    unfold wpList
    split at h
    · exact h.elim
    · rename_i hg
      have hw : Region.wanted o (yielded ops.toArray a.tmps) = true := by simp [Region.wanted, hg]
      rw [hw]
      simp only [if_true]
      refine .inl ?_
      split at h
      · rename_i c hop
        obtain ⟨rfl, h⟩ := h
        split at h
        · rename_i f hcal
          split at h
          · rename_i g fi ca hv
            have hge := s.ev f
            rw [hv] at hge
            generalize hz : a.eval f = z at hge
            cases hge with
            | @fn _ _ _ fs cs hl1 hl2 h1 h2 =>
              have hargs := map_list s.ev c.args.toList
              unfold Oper.wp
              have hrun : (execOp a.eval o).run P w = .ok (.defer { target := .fn (.func g) cs.toArray, args := (fs ++ c.args.toList.map a.eval).toArray }) w := by
                have hfin : fs.toArray ++ c.args.map a.eval = (fs ++ c.args.toList.map a.eval).toArray := by apply Array.ext'; simp
                simp only [execOp, hop, resolve, hcal, hz, Deferred.ofValue, Sem.run_bind, Sem.run_pure, Result.andThen_ok, hfin]
              rw [hrun]
              simp only [Oper.upon]
              refine hR _ _ _ _ _ B S _ h ?_ ⟨cs, fs ++ c.args.toList.map a.eval, rfl, ?_⟩ (Step.refl _ _ _ _)
              · have s2 : Sim w0 B0 S0 H0 ({ target := .fn (.func g) cs.toArray, args := (fs ++ c.args.toList.map a.eval).toArray } :: D) tm H { a with defers := { target := .fn (.func g) cs.toArray, args := (fs ++ c.args.toList.map a.eval).toArray } :: a.defers } w B S :=
                  ⟨s.entry, s.step, s.hrel, s.tmps, by rw [← s.defers]⟩
                exact s2.put o.dst undef_rel
              · exact ARelL.append (ARelL.append ⟨hl1, h1⟩ hargs) ⟨hl2, h2⟩
          · exact h.elim
        · exact h.elim
      · split at h
        · rename_i v H' hs
          obtain ⟨r, w', B', S', hrun, st, hr, hv⟩ := step_next s.hrel s.ev hs
          have s' := (s.mono st hr).put o.dst hv
          have hR' : ∀ tm' H'' ad a' w'' B'' S'' d, K tm' H'' ad → Sim w0 B0 S0 H0 (d :: D) tm' H'' a' w'' B'' S'' → DRel w'' B'' S'' H'' ad d → Step w' B' S' H' w'' B'' S'' H'' → R .normal a' w'' :=
            fun tm' H'' ad a' w'' B'' S'' d hk hs hd hst => hR _ _ _ _ _ _ _ _ hk hs hd (st.trans hst)
          unfold Oper.wp
          rcases hrun with hrun | ⟨hrun, rfl⟩
          · rw [hrun]; exact ih _ _ _ _ _ _ h s' hR'
          · rw [hrun]; exact ih _ _ _ _ _ _ h s' hR'
        · exact h.elim
theorem awpd_defer {id : Nat} {l : List Oper} (h : AWLD P l (fun tm' H' ad => Q .normal tm' H' (ad :: AD)) l tm H) : AWPD P H0 (.region id l.toArray false) Q tm H AD := by
  intro w0 B0 S0 D a w B S s hd
  refine wp_region_lit (awld_sound l tm H a w B S h s ?_)
  intro tm' H' ad a' w' B' S' d hk s' hdr st
  exact ⟨.normal, tm', H', B', S', d :: D, ad :: AD, hk, s', ⟨hdr, hd.mono st⟩, trivial⟩
/-- The end of a function with at most one deferred call. -/
def RetD (P : Program) (rs : List ResultVar) (H0 : List AObj) (out : AOut) : AEx → List AV → List AObj → List ADef → Prop
  | e, tm, H, [] => RetQ P rs H0 out e tm H
  | .normal, tm, H, [d] | .ret, tm, H, [d] => ∃ H1, ARunD P d.f d.args H none H1 ∧ RetQ P rs H0 out .ret tm H1
  | .pan x, tm, H, [d] => ∃ H1, ARunD P d.f d.args H (some x) H1 ∧ RetQ P rs H0 out .ret tm H1
  | _, _, _, _ => False
theorem ARun.introD {f : FuncId} {fn : Func} {c : Code} {args : List AV} {out : AOut} {n : Nat} {rs : List ResultVar} (hf : P.funcs[f]? = some fn) (hb : fn.body = some c)
    (hcall : ∀ xs w, (callFunc f xs).run P w = .ok (.enter f xs) w) (hn : fn.ntmps = n) (hrs : fn.results = rs.toArray)
    (h : AWPD P H0 c (RetD P rs H0 out) (args ++ List.replicate (n - args.length) (.tup [])) H0 []) : ARun P f args H0 out := by
  refine ⟨hcall, fun w B S vs hr hargs => ?_⟩
  refine calls_of_wp_defers hf hb ?_
  have hl := hargs.1
  have s : Sim w B S H0 [] (args ++ List.replicate (n - args.length) (.tup [])) H0 { tmps := vs.toArray ++ Array.replicate (fn.ntmps - vs.toArray.size) undef, defers := [] } w B S := by
    refine ⟨hr, Step.refl _ _ _ _, hr, ?_, rfl⟩
    have : (vs.toArray ++ Array.replicate (fn.ntmps - vs.toArray.size) undef).toList = vs ++ List.replicate (n - args.length) undef := by
      simp [hn, hl]
    rw [this]
    refine hargs.append ⟨by simp, fun j c v hc hv => ?_⟩
    have h1 := (List.mem_replicate.1 (List.mem_of_getElem? hc)).2
    have h2 := (List.mem_replicate.1 (List.mem_of_getElem? hv)).2
    subst h1; subst h2
    exact undef_rel
  refine wp_mono (h w B S [] _ w B S s trivial) ?_
  have ret : ∀ tm H a' w' B' S' D, Sim w B S H0 D tm H a' w' B' S' → RetQ P rs H0 out .ret tm H →
      ∃ v, (results fn a'.tmps).run P w' = .ok v w' ∧ ∃ B'' S'', Step w B S H0 w' B'' S'' out.H ∧ HRel w' B'' S'' out.H ∧ ERel w' B'' S'' out (.returned v) := by
    rintro tm H a' w' B' S' D s' ⟨vs', hvs, v2, ho, m, k, hd, hH2, hv2⟩
    obtain ⟨x, hx1, hx2⟩ := results_rel (P := P) (fn := fn) s' (by rw [hrs]; exact hvs)
    have s2 := s'.dropped k hd
    refine ⟨x, hx1, B', _, by rw [hH2]; exact s2.step, by rw [hH2]; exact s2.hrel, ?_⟩
    rw [ho]
    simp only [ERel]
    have h3 := low_rel (n := k) s'.hrel hd.2.1 hx2
    rw [hH2]
    exact hv2 _ _ _ _ _ h3
  have leave : ∀ tm H a' w' B' S' d D u mode H1, Sim w B S H0 (D :: []) tm H a' w' B' S' → DRel w' B' S' H d D → MRel w' B' S' H u mode → mode ≠ .run → ARunD P d.f d.args H u H1 → RetQ P rs H0 out .ret tm H1 →
      Leaves P fn a'.tmps (fun e w' => ∃ B' S', Step w B S H0 w' B' S' out.H ∧ HRel w' B' S' out.H ∧ ERel w' B' S' out e) a'.defers mode w' := by
    intro tm H a' w' B' S' d D u mode H1 s' hd hm hnr hrun hq
    obtain ⟨cs, vs', rfl, hrel⟩ := hd
    rw [s'.defers]
    refine leaves_cons (f := d.f) (args := vs'.toArray ++ cs.toArray) hnr (by simp only [invoke]; exact hrun.call _ _) ?_
    have := hrun.run w' B' S' (vs' ++ cs) mode s'.hrel hrel hm
    have hfin : vs'.toArray ++ cs.toArray = (vs' ++ cs).toArray := by simp
    rw [hfin]
    refine this.mono ?_
    rintro e u' w'' ⟨⟨x, rfl⟩, hset, B'', S'', st, hr''⟩
    simp only [Leaves, hset]
    have s3 : Sim w B S H0 [{ target := .fn (.func d.f) cs.toArray, args := vs'.toArray }] tm H1 a' w'' B'' S'' := s'.mono st hr''
    exact ret tm H1 a' w'' B'' S'' _ s3 hq
  rintro e a' w' ⟨x, tm', H', B', S', D, AD, hq, s', hd, hx⟩
  cases AD with
  | nil =>
    have hD : D = [] := by cases D with
      | nil => rfl
      | cons => exact hd.elim
    subst hD
    cases x <;> cases e <;> simp only [XRel] at hx <;> try (exact hx.elim)
    case normal.normal => simp only [bodyPostD, s'.defers]; exact ret _ _ _ _ _ _ _ s' hq
    case exit.exit => exact hq.elim
    case goto.goto => exact hq.elim
    case ret.ret => simp only [bodyPostD, s'.defers]; exact ret _ _ _ _ _ _ _ s' hq
    case pan.panic =>
      obtain ⟨v, rfl, hv⟩ := hx
      obtain ⟨v2, ho, m, k, hdr, hH2, hv2⟩ := hq
      have s2 := s'.dropped k hdr
      simp only [bodyPostD, s'.defers, Leaves]
      refine ⟨B', _, by rw [hH2]; exact s2.step, by rw [hH2]; exact s2.hrel, ?_⟩
      rw [ho]
      simp only [ERel]
      refine ⟨v, rfl, ?_⟩
      have h3 := low_rel (n := k) s'.hrel hdr.2.1 hv
      rw [hH2]
      exact hv2 _ _ _ _ _ h3
  | cons d ds =>
    cases D with
    | nil => exact hd.elim
    | cons D1 Ds =>
      obtain ⟨hd1, hd2⟩ := hd
      cases ds with
      | cons => cases x <;> exact hq.elim
      | nil =>
        have hDs : Ds = [] := by cases Ds with
          | nil => rfl
          | cons => exact hd2.elim
        subst hDs
        cases x <;> cases e <;> simp only [XRel] at hx <;> try (exact hx.elim)
        case normal.normal =>
          obtain ⟨H1, h1, h2⟩ := hq
          exact leave _ _ _ _ _ _ _ _ none .returning H1 s' hd1 rfl (by simp) h1 h2
        case exit.exit => exact hq.elim
        case goto.goto => exact hq.elim
        case ret.ret =>
          obtain ⟨H1, h1, h2⟩ := hq
          exact leave _ _ _ _ _ _ _ _ none .returning H1 s' hd1 rfl (by simp) h1 h2
        case pan.panic =>
          obtain ⟨v, rfl, hv⟩ := hx
          obtain ⟨H1, h1, h2⟩ := hq
          exact leave _ _ _ _ _ _ _ _ (some _) (.panicking [{ v := v, recovered := false }]) H1 s' hd1 ⟨v, rfl, hv⟩ (by simp) h1 h2
end
end Go.Proofs.YtpfjlifneibhfaaGreat.AL
namespace Go.Proofs.YtpfjlifneibhfaaGreat.AL
variable [G : GTab]
/-- How the frame below stands, told by abstract values. -/
inductive UM where
  | none
  | pan (x : AV)
  | recd (x : AV)
def UM.of : Option AV → UM
  | .none => .none
  | some x => .pan x
def URel (w : World) (B : BMap) (S : Nat → Prop) (H : List AObj) : UM → FrameMode → Prop
  | .none, m => m = .returning
  | .pan x, m => ∃ v, m = .panicking [{ v := v, recovered := false }] ∧ ARel w B S H x v
  | .recd x, m => ∃ v, m = .panicking [{ v := v, recovered := true }] ∧ ARel w B S H x v
def LiftS (w0 : World) (B0 : BMap) (S0 : Nat → Prop) (H0 : List AObj) (c0 : Frame) (cs : List Frame) (Q : AEx → List AV → List AObj → UM → Prop) : Exit → Act → List Frame → World → Prop :=
  fun e a cs' w => ∃ x tm H B S u mode, Q x tm H u ∧ Sim w0 B0 S0 H0 [] tm H a w B S ∧ URel w B S H u mode ∧ cs' = { c0 with mode := mode } :: cs ∧ XRel w B S H x e
def AWPS (P : Program) (H0 : List AObj) (c : Code) (Q : AEx → List AV → List AObj → UM → Prop) (tm : List AV) (H : List AObj) (u : UM) : Prop :=
  ∀ w0 B0 S0 a w B S c0 cs mode, Sim w0 B0 S0 H0 [] tm H a w B S → URel w B S H u mode → c.wpS P (LiftS w0 B0 S0 H0 c0 cs Q) a ({ c0 with mode := mode } :: cs) w
section
variable {P : Program} {w0 : World} {B0 : BMap} {S0 : Nat → Prop} {H0 : List AObj} {D : List Deferred} {tm : List AV} {H : List AObj} {a : Act} {w : World} {B : BMap} {S : Nat → Prop} {u : UM}
  {Q : AEx → List AV → List AObj → UM → Prop}
theorem URel.mono {w' : World} {B' : BMap} {S' : Nat → Prop} {H' : List AObj} (st : Step w B S H w' B' S' H') {m : FrameMode} (h : URel w B S H u m) : URel w' B' S' H' u m := by
  cases u with
  | none => exact h
  | pan x => obtain ⟨v, h1, h2⟩ := h; exact ⟨v, h1, h2.mono st⟩
  | recd x => obtain ⟨v, h1, h2⟩ := h; exact ⟨v, h1, h2.mono st⟩
theorem wpS_mono {c : Code} {Q Q' : Exit → Act → List Frame → World → Prop} {cs : List Frame} (h : c.wpS P Q a cs w) (hq : ∀ e a cs w, Q e a cs w → Q' e a cs w) : c.wpS P Q' a cs w :=
  fun b k hb hr => let ⟨e, a', cs', w', q, r⟩ := h b k hb hr; ⟨e, a', cs', w', hq _ _ _ _ q, r⟩
theorem awps_of {c : Code} {Q' : AEx → List AV → List AObj → Prop} (h : AWP P H c Q' tm H) (hq : ∀ x tm H, Q' x tm H → Q x tm H u) : AWPS P H0 c Q tm H u := by
  intro w0 B0 S0 a w B S c0 cs mode s hu
  refine wpS_of_wp (wp_mono (h w B S [] a w B S ⟨s.hrel, Step.refl _ _ _ _, s.hrel, s.tmps, s.defers⟩) ?_)
  rintro e a' w' ⟨x, tm', H', B', S', hq', s', hx⟩
  exact ⟨x, tm', H', B', S', u, mode, hq _ _ _ hq', ⟨s.entry, s.step.trans s'.step, s'.hrel, s'.tmps, s'.defers⟩, hu.mono s'.step, rfl, hx⟩
def AEx.thnS (next : List AV → List AObj → UM → Prop) (Q : AEx → List AV → List AObj → UM → Prop) : AEx → List AV → List AObj → UM → Prop
  | .normal, tm, H, u => next tm H u
  | e, tm, H, u => Q e tm H u
theorem awps_seq {x y : Code} (h : AWPS P H0 x (AEx.thnS (AWPS P H0 y Q) Q) tm H u) : AWPS P H0 (.seq x y) Q tm H u := by
  intro w0 B0 S0 a w B S c0 cs mode s hu
  refine wpS_seq (wpS_mono (h w0 B0 S0 a w B S c0 cs mode s hu) ?_)
  rintro e a' cs' w' ⟨x, tm', H', B', S', u', mode', hq, s', hu', rfl, hx⟩
  cases x <;> cases e <;> simp only [XRel] at hx <;> try (exact hx.elim)
  case normal.normal => exact hq w0 B0 S0 a' w' B' S' c0 cs mode' s' hu'
  case exit.exit => exact ⟨_, _, _, _, _, _, _, hq, s', hu', rfl, hx⟩
  case goto.goto => exact ⟨_, _, _, _, _, _, _, hq, s', hu', rfl, hx⟩
  case ret.ret => exact ⟨.ret, _, _, _, _, _, _, hq, s', hu', rfl, trivial⟩
  case pan.panic => exact ⟨_, _, _, _, _, _, _, hq, s', hu', rfl, hx⟩
theorem awps_cond {c : Operand} {x y : Code} {b : Bool} (hc : aev tm c = .pv (.sc (.bool b))) (h1 : b = true → AWPS P H0 x Q tm H u) (h2 : b = false → AWPS P H0 y Q tm H u) :
    AWPS P H0 (.cond c x y) Q tm H u := by
  intro w0 B0 S0 a w B S c0 cs mode s hu
  have hv := s.ev c
  rw [hc] at hv
  refine wpS_cond (t := b) (sc_eq hv) ?_
  cases b with
  | true => exact h1 rfl w0 B0 S0 a w B S c0 cs mode s hu
  | false => exact h2 rfl w0 B0 S0 a w B S c0 cs mode s hu
theorem awps_skip (h : Q .normal tm H u) : AWPS P H0 .skip Q tm H u := by
  refine awps_of (Q' := fun x tm' H' => x = .normal ∧ tm' = tm ∧ H' = H) (awp_skip ⟨rfl, rfl, rfl⟩) ?_
  rintro x tm' H' ⟨rfl, rfl, rfl⟩; exact h
def isRecover : Op → Bool
  | .call c => match c.callee with
    | .builtin .recover => true
    | _ => false
  | _ => false
/-- A region that may recover. -/
def AWLS (P : Program) (K : List AV → List AObj → UM → Prop) : List Oper → List AV → List AObj → UM → Prop
  | [], tm, H, u => K tm H u
  | o :: rest, tm, H, u =>
    match o.guard with
    | some _ => False
    | none => if isRecover o.op then match u with
        | .pan x => AWLS P K rest (aput tm o.dst x) H (.recd x)
        | u => AWLS P K rest (aput tm o.dst (.sc .nilIface)) H u
      else match aStep P tm H o with
        | .next v H' => AWLS P K rest (aput tm o.dst v) H' u
        | .run => (aConcs tm o && notSelect o.op) = true ∧ ∃ r : Value, (∀ w, (execOp (aRho tm) o).run P w = .ok (.value r) w) ∧ AWLS P K rest (aput tm o.dst (.ofV r)) H u
        | .enter f args => ∃ v H', ARun P f args H (.ret v H') ∧ AWLS P K rest (aput tm o.dst v) H' u
        | _ => False
theorem awls_sound {ops : Array Oper} {K : List AV → List AObj → UM → Prop} {c0 : Frame} {cs : List Frame} {R : Exit → Act → List Frame → World → Prop} : ∀ (l : List Oper) (k : Nat) (tm : List AV) (H : List AObj) (u : UM) (a : Act) (w : World) (B : BMap) (S : Nat → Prop) (mode : FrameMode),
    (∀ j, l[j]? = ops[k + j]?) → AWLS P K l tm H u → Sim w0 B0 S0 H0 [] tm H a w B S → URel w B S H u mode →
    (∀ tm' H' u' a' w' B' S' mode', K tm' H' u' → Sim w0 B0 S0 H0 [] tm' H' a' w' B' S' → URel w' B' S' H' u' mode' → R .normal a' ({ c0 with mode := mode' } :: cs) w') →
    wpOpsS P ops R (List.range' k l.length) a ({ c0 with mode := mode } :: cs) w
  | [], k, tm, H, u, a, w, B, S, mode, hl, h, s, hu, hR => by
    simp only [List.length_nil, List.range'_zero, wpOpsS]
    exact hR _ _ _ _ _ _ _ _ h s hu
  | o :: rest, k, tm, H, u, a, w, B, S, mode, hl, h, s, hu, hR => by
    have ih := awls_sound (ops := ops) (K := K) (c0 := c0) (cs := cs) (R := R) rest (k + 1)
    have hl' : ∀ j, rest[j]? = ops[k + 1 + j]? := fun j => by have := hl (j + 1); simpa [Nat.add_assoc, Nat.add_comm 1 j] using this
    have h0 : ops[k]? = some o := by simpa using (hl 0).symm
    unfold AWLS at h
    simp only [List.length_cons, List.range'_succ, wpOpsS, h0]
    split at h
    · exact h.elim
    · rename_i hg
      have hw : Region.wanted o (yielded ops a.tmps) = true := by simp [Region.wanted, hg]
      simp only [hw, if_true]
      by_cases hrec : isRecover o.op = true
      · rw [if_pos hrec] at h
        have hrun : (execOp a.eval o).run P w = .ok .recover w := by
          unfold isRecover at hrec
          split at hrec
          · rename_i c hc
            split at hrec
            · rename_i hb; simp [execOp, hc, resolve, hb, builtin, invoke]
            · cases hrec
          · cases hrec
        rw [hrun]
        simp only
        cases u with
        | pan x =>
          simp only at h
          obtain ⟨v, rfl, hv⟩ := hu
          simp only [recoverD]
          exact ih _ _ _ _ _ _ _ _ hl' h (s.put o.dst hv) ⟨v, rfl, hv⟩ hR
        | none =>
          simp only at h
          obtain rfl := hu
          simp only [recoverD]
          exact ih _ _ _ _ _ _ _ _ hl' h (s.put o.dst (.sc rfl)) rfl hR
        | recd x =>
          simp only at h
          obtain ⟨v, rfl, hv⟩ := hu
          simp only [recoverD]
          exact ih _ _ _ _ _ _ _ _ hl' h (s.put o.dst (.sc rfl)) ⟨v, rfl, hv⟩ hR
      · rw [if_neg hrec] at h
        split at h
        · rename_i v H' hs
          obtain ⟨r, w', B', S', hrun, st, hr, hv⟩ := step_next s.hrel s.ev hs
          have s' := (s.mono st hr).put o.dst hv
          rcases hrun with hrun | ⟨hrun, rfl⟩
          · rw [hrun]; exact ih _ _ _ _ _ _ _ _ hl' h s' (hu.mono st) hR
          · rw [hrun]; exact ih _ _ _ _ _ _ _ _ hl' h s' (hu.mono st) hR
        · rename_i hs
          obtain ⟨hc, r, hrun, h⟩ := h
          simp only [Bool.and_eq_true] at hc
          rw [run_eq s hc.1 hc.2, hrun w]
          exact ih _ _ _ _ _ _ _ _ hl' h (s.put o.dst (.ofV r)) hu hR
        · rename_i f args hs
          obtain ⟨v, H', ⟨hcall, hrunA⟩, h⟩ := h
          obtain ⟨vs, hrun, hargs⟩ := enter_args s hs hcall
          rw [hrun]
          show Calls P f vs.toArray w _
          refine (hrunA w B S vs s.hrel hargs).mono (fun e w' hew => ?_)
          obtain ⟨B', S', st, hr, he⟩ := hew
          cases e with
          | returned x => exact ih _ _ _ _ _ _ _ _ hl' h ((s.mono st hr).put o.dst he) (hu.mono st) hR
          | panicked c => exact he.elim
          | outgrown => exact he.elim
        · exact h.elim
theorem awps_region {id : Nat} {l : List Oper} (h : AWLS P (fun tm H u => Q .normal tm H u) l tm H u) : AWPS P H0 (.region id l.toArray false) Q tm H u := by
  intro w0 B0 S0 a w B S c0 cs mode s hu
  refine wpS_region ?_
  have := awls_sound (ops := l.toArray) (R := LiftS w0 B0 S0 H0 c0 cs Q) (c0 := c0) (cs := cs) l 0 tm H u a w B S mode (fun j => by simp) h s hu
    (fun tm' H' u' a' w' B' S' mode' hk s' hu' => ⟨.normal, tm', H', B', S', u', mode', hk, s', hu', rfl, trivial⟩)
  simpa [List.range_eq_range'] using this
/-- At its end: memory is told by H1, the panic is recovered. -/
def RetS (P : Program) (rs : List ResultVar) (H0 : List AObj) (H1 : List AObj) : AEx → List AV → List AObj → UM → Prop
  | .normal, tm, H, u | .ret, tm, H, u => (∃ vs, aResultL P tm H rs = some vs) ∧ (∃ m, Droppable H0 H m ∧ H1 = H.take m) ∧ (match u with | .pan _ => False | _ => True)
  | _, _, _, _ => False
theorem ARunD.intro {f : FuncId} {fn : Func} {c : Code} {args : List AV} {u : Option AV} {H1 : List AObj} {n : Nat} {rs : List ResultVar} (hf : P.funcs[f]? = some fn) (hb : fn.body = some c)
    (hcall : ∀ xs w, (callFunc f xs).run P w = .ok (.enter f xs) w) (hn : fn.ntmps = n) (hrs : fn.results = rs.toArray)
    (h : AWPS P H0 c (RetS P rs H0 H1) (args ++ List.replicate (n - args.length) (.tup [])) H0 (UM.of u)) : ARunD P f args H0 u H1 := by
  refine ⟨hcall, fun w B S vs mode hr hargs hm => ?_⟩
  have hl := hargs.1
  have hmode : ∀ c₀ : Frame, c₀.mode = mode → c₀ = { c₀ with mode := mode } := by intro c₀ h; subst h; rfl
  refine callsD_of_wpS hf hb (fun c₀ cs hc => ?_)
  have s : Sim w B S H0 [] (args ++ List.replicate (n - args.length) (.tup [])) H0 { tmps := vs.toArray ++ Array.replicate (fn.ntmps - vs.toArray.size) undef, defers := [] } w B S := by
    refine ⟨hr, Step.refl _ _ _ _, hr, ?_, rfl⟩
    have : (vs.toArray ++ Array.replicate (fn.ntmps - vs.toArray.size) undef).toList = vs ++ List.replicate (n - args.length) undef := by
      simp [hn, hl]
    rw [this]
    refine hargs.append ⟨by simp, fun j c v hc hv => ?_⟩
    have h1 := (List.mem_replicate.1 (List.mem_of_getElem? hc)).2
    have h2 := (List.mem_replicate.1 (List.mem_of_getElem? hv)).2
    subst h1; subst h2
    exact undef_rel
  have hu : URel w B S H0 (UM.of u) mode := by
    cases u with
    | none => exact hm
    | some x => exact hm
  have := h w B S _ w B S c₀ cs mode s hu
  rw [← hmode c₀ hc] at this
  refine wpS_mono this ?_
  have ret : ∀ tm H a' w' B' S' u' mode', Sim w B S H0 [] tm H a' w' B' S' → URel w' B' S' H u' mode' → RetS P rs H0 H1 .ret tm H u' →
      a'.defers = [] ∧ ∃ u'', ({ c₀ with mode := mode' } :: cs : List Frame) = { c₀ with mode := u'' } :: cs ∧ ∃ v, (results fn a'.tmps).run P w' = .ok v w' ∧
        ((∃ x, Ending.returned v = .returned x) ∧ settle u'' = .returning ∧ ∃ B' S', Step w B S H0 w' B' S' H1 ∧ HRel w' B' S' H1) := by
    rintro tm H a' w' B' S' u' mode' s' hu' ⟨⟨vs', hvs⟩, ⟨m, hd, rfl⟩, hnp⟩
    obtain ⟨x, hx1, hx2⟩ := results_rel (P := P) (fn := fn) s' (by rw [hrs]; exact hvs)
    have s2 := s'.dropped 0 hd
    refine ⟨s'.defers, mode', rfl, x, hx1, ⟨x, rfl⟩, ?_, B', _, s2.step, s2.hrel⟩
    cases u' with
    | none => obtain rfl := hu'; rfl
    | pan x => exact hnp.elim
    | recd x => obtain ⟨v, rfl, _⟩ := hu'; rfl
  rintro e a' cs' w' ⟨x, tm', H', B', S', u', mode', hq, s', hu', rfl, hx⟩
  cases x <;> cases e <;> simp only [XRel] at hx <;> try (exact hx.elim)
  case normal.normal => exact ret _ _ _ _ _ _ _ _ s' hu' hq
  case exit.exit => exact hq.elim
  case goto.goto => exact hq.elim
  case ret.ret => exact ret _ _ _ _ _ _ _ _ s' hu' hq
  case pan.panic => exact hq.elim
end
end Go.Proofs.YtpfjlifneibhfaaGreat.AL
namespace Go.Proofs.YtpfjlifneibhfaaGreat.AL
variable [G : GTab]
section
variable {P : Program} {H0 : List AObj} {Q : AEx → List AV → List AObj → Prop} {tm : List AV} {H : List AObj}
theorem awe_cases {ops : List Oper} {o : Oper} {rest : List Oper} {f : FuncId} {args : List AV} {b : Bool} {o1 o2 : AOut} (h : ARun P f args H (cond b o1 o2))
    (h1 : b = true → AWO P ops Q o rest tm o1) (h2 : b = false → AWO P ops Q o rest tm o2) : AWE P ops Q o rest tm H f args := by
  cases b
  · exact awe_intro h (h2 rfl)
  · exact awe_intro h (h1 rfl)
theorem awloop_step {c : Code} {n : Nat} (h : AWP P H0 c (AEx.thn (AWLoop P H0 c Q n) Q) tm H) : AWLoop P H0 c Q (n + 1) tm H := h
theorem awp_loop_ind {σ : Type} {c : Code} (μ : σ → Nat) (Inv : σ → Prop) (T : σ → List AV) (M : σ → List AObj) (s0 : σ) (h0 : Inv s0) (hw : Wk H0 tm H (T s0) (M s0))
    (step : ∀ s, Inv s → AWP P H0 c (AEx.thn (fun tm' H' => ∃ s', μ s' < μ s ∧ Inv s' ∧ Wk H0 tm' H' (T s') (M s')) Q) (T s) (M s)) : AWP P H0 (.loop c) Q tm H := by
  have key : ∀ n s, Inv s → μ s < n → AWLoop P H0 c Q n (T s) (M s) := by
    intro n
    induction n with
    | zero => intro s _ h; omega
    | succ n ih =>
      intro s hi hlt
      unfold AWLoop
      refine awp_mono (step s hi) ?_
      intro e tm' H' hq
      cases e with
      | normal =>
        obtain ⟨s', h1, h2, h3⟩ := hq
        exact (ih s' h2 (by omega)).wk h3
      | _ => exact hq
  exact awp_wk hw (awp_loop (μ s0 + 1) (key _ _ h0 (by omega)))
theorem PRel.len {w : World} {S : Nat → Prop} {sz : Nat} {rows : List (List PV)} {v : Value} (h : PRel w S (.rs sz rows) v) : (rows.length : Int) ≤ 9223372036854775807 := by
  cases h with
  | rs V hc hm => have := Nat.le_trans hc hm; unfold maxLen at this; omega
/-- A slice's length is a number of the machine. -/
theorem awp_len {c : Code} (k : Nat) {sz : Nat} {rows : List (List PV)} (hk : tm[k]? = some (.pv (.rs sz rows))) (h : (rows.length : Int) ≤ 9223372036854775807 → AWP P H0 c Q tm H) : AWP P H0 c Q tm H := by
  intro w0 B0 S0 D a w B S s
  have hl : tm.length = a.tmps.toList.length := s.tmps.1
  have hlt := (List.getElem?_eq_some_iff.1 hk).1
  have := s.tmps.2 k _ a.tmps.toList[k] hk (List.getElem?_eq_getElem (by omega))
  cases this with
  | pv hp => exact h hp.len w0 B0 S0 D a w B S s
theorem awp_len_agg {c : Code} (k j : Nat) {cs : List AV} {sz : Nat} {rows : List (List PV)} (hk : tm[k]? = some (.agg cs)) (hj : cs[j]? = some (.pv (.rs sz rows))) (h : (rows.length : Int) ≤ 9223372036854775807 → AWP P H0 c Q tm H) :
    AWP P H0 c Q tm H := by
  intro w0 B0 S0 D a w B S s
  have hl : tm.length = a.tmps.toList.length := s.tmps.1
  have hlt := (List.getElem?_eq_some_iff.1 hk).1
  have := s.tmps.2 k _ a.tmps.toList[k] hk (List.getElem?_eq_getElem (by omega))
  generalize a.tmps.toList[k] = v at this
  cases this with
  | @agg _ vs hl h1 hr =>
    have hlt := (List.getElem?_eq_some_iff.1 hj).1
    have := hr j _ vs[j] hj (List.getElem?_eq_getElem (by omega))
    cases this with
    | pv hp => exact h hp.len w0 B0 S0 D a w B S s
theorem droppable_app {L : List AObj} (k : Nat) (hk : k ≤ L.length) (h : ∀ o ∈ L.take k, o.under (H0.length + k)) : Droppable H0 (H0 ++ L) (H0.length + k) := by
  refine ⟨by omega, by simp; omega, fun id o hid ho => ?_⟩
  by_cases hlt : id < H0.length
  · rw [List.getElem?_append_left hlt] at ho; exact .inl ho
  · rw [List.getElem?_append_right (by omega)] at ho
    refine .inr (h o ?_)
    refine List.mem_of_getElem? (i := id - H0.length) ?_
    rw [List.getElem?_take, if_pos (by omega)]; exact ho
theorem droppable_set {L : List AObj} {i : Nat} {y : AObj} (k : Nat) (hk : k ≤ L.length) (hy : y.under (H0.length + k)) (h : ∀ o ∈ L.take k, o.under (H0.length + k)) : Droppable H0 (H0.set i y ++ L) (H0.length + k) := by
  refine ⟨by omega, by simp; omega, fun id o hid ho => ?_⟩
  by_cases hlt : id < H0.length
  · rw [List.getElem?_append_left (by simpa using hlt), List.getElem?_set] at ho
    by_cases he : i = id
    · subst he
      simp only [if_true, hlt, Option.some.injEq] at ho
      subst ho; exact .inr hy
    · rw [if_neg he] at ho; exact .inl ho
  · rw [List.getElem?_append_right (by simpa using hlt)] at ho
    refine .inr (h o ?_)
    refine List.mem_of_getElem? (i := id - H0.length) ?_
    rw [List.getElem?_take, if_pos (by omega)]; simpa using ho
theorem Wk.to {m : Nat} {tm' : List AV} {H' : List AObj} (d : Nat) (hd : Droppable H0 H m) (hH : H.take m = H') (ht : Fgt (tm.map fun c => c.low H m d) tm') : Wk H0 tm H tm' H' := by
  subst hH
  exact (Wk.drop d hd).trans (Wk.fgt ht)
theorem take_app (A L : List AObj) (k : Nat) : (A ++ L).take (A.length + k) = A ++ L.take k := by rw [List.take_append, List.take_of_length_le (by omega)]; congr 1; congr 1; omega
/-- The first k objects of one's own stay, the others fall away. -/
theorem Wk.keep {L : List AObj} {tm' : List AV} (k d : Nat) (hk : k ≤ L.length) (h : ∀ o ∈ L.take k, o.under (H0.length + k)) (ht : Fgt (tm.map fun c => c.low (H0 ++ L) (H0.length + k) d) tm') :
    Wk H0 tm (H0 ++ L) tm' (H0 ++ L.take k) := Wk.to d (droppable_app k hk h) (take_app _ _ _) ht
theorem Wk.keepE {L L' : List AObj} {tm' : List AV} (k d : Nat) (hL : L.take k = L') (hk : k ≤ L.length) (h : ∀ o ∈ L', o.under (H0.length + k)) (ht : Fgt (tm.map fun c => c.low (H0 ++ L) (H0.length + k) d) tm') :
    Wk H0 tm (H0 ++ L) tm' (H0 ++ L') := by subst hL; exact Wk.keep k d hk h ht
/-- Nothing of one's own stays. -/
theorem Wk.drop0 {L : List AObj} {tm' : List AV} (d : Nat) (ht : Fgt (tm.map fun c => c.low (H0 ++ L) H0.length d) tm') : Wk H0 tm (H0 ++ L) tm' H0 := by
  have := Wk.keep (H0 := H0) (L := L) (tm := tm) (tm' := tm') 0 d (Nat.zero_le _) (by simp) (by simpa using ht)
  simpa using this
theorem Fin.keep {L : List AObj} {v v2 : AV} (k d : Nat) (hk : k ≤ L.length) (h : ∀ o ∈ L.take k, o.under (H0.length + k)) (hv : v2 = v.low (H0 ++ L) (H0.length + k) d) :
    Fin H0 (H0 ++ L) v (H0 ++ L.take k) v2 := ⟨_, d, droppable_app k hk h, (take_app _ _ _).symm, Cv.of hv⟩
theorem Fin.set {L : List AObj} {i : Nat} {y : AObj} {v v2 : AV} (d : Nat) (hy : y.under H0.length) (hv : v2 = v.low (H0.set i y ++ L) H0.length d) :
    Fin H0 (H0.set i y ++ L) v (H0.set i y) v2 := ⟨H0.length, d, by simpa using droppable_set (H0 := H0) (L := L) (i := i) (y := y) 0 (Nat.zero_le _) hy (by simp), by simp [List.take_append], Cv.of hv⟩
/-! ### a nil slice is an empty row of one's own -/
theorem Wk.ghost (k : Nat) (t : TypeId) {sz : Nat} (hsz : 0 < sz) (hk : tm[k]? = some (.pv (.sc (.slice none 0 0)))) : Wk H0 tm H (tm.set k (.os H.length 0 0 0)) (H ++ [.arr t sz []]) := by
  intro w0 B0 S0 D a w B S s
  let B' : BMap := fun i => if i = H.length then none else B i
  have hB : ∀ i, i < H.length → B' i = B i := fun i hi => if_neg (by omega)
  have get : ∀ i, i < H.length → (H ++ [.arr t sz []])[i]? = H[i]? := fun i hi => List.getElem?_append_left hi
  have st : Step w B S H w B' S (H ++ [.arr t sz []]) := by
    refine ⟨rfl, rfl, rfl, Nat.le_refl _, fun _ h => h, fun _ _ => rfl, by simp, ?_, ?_⟩
    · intro id t' sz' rows h
      have hlt := (List.getElem?_eq_some_iff.1 h).1
      exact .inr ⟨rows, by rw [get id hlt]; exact h, Nat.le_refl _, fun _ => hB id hlt⟩
    · intro id hid hn
      exact ⟨hB id hid, fun t' sz' rows => by rw [get id hid]; exact hn t' sz' rows⟩
  have hr : HRel w B' S (H ++ [.arr t sz []]) := by
    have hlt' : ∀ i, i < (H ++ [AObj.arr t sz []]).length → B' i ≠ none → i < H.length := by
      intro i hi hb
      simp only [List.length_append, List.length_cons, List.length_nil] at hi
      by_cases e : i = H.length
      · exact absurd (if_pos e) hb
      · omega
    refine ⟨?_, ?_, ?_, s.hrel.bound, s.hrel.glob⟩
    · intro id o h
      by_cases hlt : id < H.length
      · rw [get id hlt] at h
        exact (s.hrel.obj id o h).keep st (hB id hlt) (fun _ _ _ => rfl)
      · rw [List.getElem?_append_right (by omega)] at h
        have : id = H.length := by
          have := (List.getElem?_eq_some_iff.1 h).1
          simp at this; omega
        subst this
        simp only [Nat.sub_self, List.getElem?_cons_zero, Option.some.injEq] at h
        subst h
        exact ⟨by simp, hsz, .inl ⟨if_pos rfl, rfl⟩⟩
    · intro i j b c d hi hj hdi hdj h1 h2
      have hi' := hlt' i hi (by rw [h1]; simp)
      have hj' := hlt' j hj (by rw [h2]; simp)
      rw [get i hi'] at hdi
      rw [get j hj'] at hdj
      rw [hB i hi'] at h1
      rw [hB j hj'] at h2
      exact s.hrel.inj i j b c d hi' hj' hdi hdj h1 h2
    · intro i b c hi hd h1
      have hi' := hlt' i hi (by rw [h1]; simp)
      rw [get i hi'] at hd
      rw [hB i hi'] at h1
      exact s.hrel.sep i b c hi' hd h1
  have s' := s.mono st hr
  refine ⟨B', S, s'.entry, s'.step, s'.hrel, ?_, s'.defers⟩
  refine ⟨by simpa using s'.tmps.1, fun j c v hc hv => ?_⟩
  rw [List.getElem?_set] at hc
  split at hc
  · rename_i e
    subst e
    split at hc
    · simp only [Option.some.injEq] at hc
      subst hc
      have hv0 := s'.tmps.2 k _ v hk hv
      have : v = .slice none 0 0 := sc_eq hv0
      subst this
      refine .os (by simp) rfl (fun t' sz' rows h => ?_)
      rw [List.getElem?_append_right (by omega)] at h
      simp only [Nat.sub_self, List.getElem?_cons_zero, Option.some.injEq, AObj.arr.injEq] at h
      obtain ⟨rfl, rfl, rfl⟩ := h
      refine ⟨by simp, fun _ => ?_⟩
      unfold OsRel
      simp [B']
    · cases hc
  · exact s'.tmps.2 j c v hc hv
end
theorem Wk.ghostL {H0 : List AObj} {tm : List AV} {L L' : List AObj} {tm' : List AV} (k n : Nat) (t : TypeId) {sz : Nat} (hsz : 0 < sz) (hn : L.length = n) (hk : tm[k]? = some (.pv (.sc (.slice none 0 0)))) (hL : L ++ [.arr t sz []] = L')
    (hf : Fgt (tm.set k (.os (H0.length + n) 0 0 0)) tm') : Wk H0 tm (H0 ++ L) tm' (H0 ++ L') := by
  subst hn; subst hL
  have := Wk.ghost (H0 := H0) (tm := tm) (H := H0 ++ L) k t hsz hk
  rw [List.append_assoc, List.length_append] at this
  exact this.trans (Wk.fgt hf)
/-! ### pure values lie below everything -/
theorem under_pvs {m : Nat} (ps : List PV) : ∀ c ∈ ps.map AV.pv, c.under m := by
  intro c hc
  obtain ⟨p, _, rfl⟩ := List.mem_map.1 hc
  simp [AV.under]
theorem toPVr_pvs {H : List AObj} {m : Nat} : ∀ (d : Nat) (ps : List PV), AV.toPVr H m d (ps.map AV.pv) = some ps
  | d, [] => by simp [AV.toPVr]
  | d, p :: ps => by
    have : AV.toPV H m d (.pv p) = some p := by cases d <;> simp [AV.toPV]
    simp [AV.toPVr, this, toPVr_pvs d ps]
theorem toPVs_pvs {H : List AObj} {m : Nat} : ∀ (d : Nat) (rows : List (List PV)), AV.toPVs H m d (rows.map fun r => r.map AV.pv) = some rows
  | d, [] => by simp [AV.toPVs]
  | d, r :: rows => by simp [AV.toPVs, toPVr_pvs, toPVs_pvs d rows]
/-- Rows of one's own that hold pure values, read from now on. -/
theorem low_os_pvs {H : List AObj} {m d id : Nat} {t : TypeId} {sz : Nat} {rows : List (List PV)} (hH : H[id]? = some (.arr t sz (rows.map fun r => r.map AV.pv))) (hm : m ≤ id) :
    (AV.os id 0 rows.length rows.length).low H m (d + 1) = .pv (.rs sz rows) := by
  have e : ((rows.map fun r => r.map AV.pv).drop 0).take rows.length = rows.map fun r => r.map AV.pv := by
    rw [List.drop_zero, List.take_of_length_le (by simp)]
  simp only [AV.low, if_neg (Nat.not_lt.2 hm), AV.toPV, hH, List.length_map, hm, and_self, if_true, e, toPVs_pvs, Option.map_some]
end Go.Proofs.YtpfjlifneibhfaaGreat.AL
namespace Go.Proofs.YtpfjlifneibhfaaGreat.AL
variable [G : GTab]
section
variable {P : Program} {H0 : List AObj} {tm : List AV} {H : List AObj}
theorem Wk.ghostO (id j : Nat) (t : TypeId) {sz : Nat} {tt : TypeId} {cs : List AV} (hsz : 0 < sz) (hid : H[id]? = some (.cells tt cs)) (hj : cs[j]? = some (.pv (.sc (.slice none 0 0)))) :
    Wk H0 tm H tm (H.set id (.cells tt (cs.set j (.os H.length 0 0 0))) ++ [.arr t sz []]) := by
  intro w0 B0 S0 D a w B S s
  have hidl := (List.getElem?_eq_some_iff.1 hid).1
  let B' : BMap := fun i => if i = H.length then none else B i
  have hB : ∀ i, i < H.length → B' i = B i := fun i hi => if_neg (by omega)
  have get : ∀ i, i < H.length → i ≠ id → (H.set id (.cells tt (cs.set j (.os H.length 0 0 0))) ++ [.arr t sz []])[i]? = H[i]? := fun i hi hne => by
    rw [List.getElem?_append_left (by simpa using hi), List.getElem?_set, if_neg (fun e => hne e.symm)]
  have getid : (H.set id (.cells tt (cs.set j (.os H.length 0 0 0))) ++ [.arr t sz []])[id]? = some (.cells tt (cs.set j (.os H.length 0 0 0))) := by
    rw [List.getElem?_append_left (by simpa using hidl), List.getElem?_set, if_pos rfl, if_pos hidl]
  have getlast : (H.set id (.cells tt (cs.set j (.os H.length 0 0 0))) ++ [AObj.arr t sz []])[H.length]? = some (.arr t sz []) := by
    rw [List.getElem?_append_right (by simp)]; simp
  have st : Step w B S H w B' S (H.set id (.cells tt (cs.set j (.os H.length 0 0 0))) ++ [.arr t sz []]) := by
    refine ⟨rfl, rfl, rfl, Nat.le_refl _, fun _ h => h, fun _ _ => rfl, by simp, ?_, ?_⟩
    · intro i t' sz' rows h
      have hlt := (List.getElem?_eq_some_iff.1 h).1
      have hne : i ≠ id := by intro e; subst e; rw [hid] at h; cases h
      exact .inr ⟨rows, by rw [get i hlt hne]; exact h, Nat.le_refl _, fun _ => hB i hlt⟩
    · intro i hi hn
      refine ⟨hB i hi, fun t' sz' rows => ?_⟩
      by_cases hne : i = id
      · subst hne; rw [getid]; simp
      · rw [get i hi hne]; exact hn t' sz' rows
  have hr : HRel w B' S (H.set id (.cells tt (cs.set j (.os H.length 0 0 0))) ++ [.arr t sz []]) := by
    have hlt' : ∀ i, i < (H.set id (.cells tt (cs.set j (.os H.length 0 0 0))) ++ [AObj.arr t sz []]).length → B' i ≠ none → i < H.length := by
      intro i hi hb
      simp only [List.length_append, List.length_set, List.length_cons, List.length_nil] at hi
      by_cases e : i = H.length
      · exact absurd (if_pos e) hb
      · omega
    have dead : ∀ i, i < H.length → (H.set id (.cells tt (cs.set j (.os H.length 0 0 0))) ++ [AObj.arr t sz []])[i]? ≠ some .dead → H[i]? ≠ some .dead := by
      intro i hi h
      by_cases hne : i = id
      · subst hne; rw [hid]; simp
      · rwa [get i hi hne] at h
    refine ⟨?_, ?_, ?_, s.hrel.bound, s.hrel.glob⟩
    · intro i o h
      by_cases hlt : i < H.length
      · by_cases hne : i = id
        · subst hne
          rw [getid] at h
          simp only [Option.some.injEq] at h
          subst h
          obtain ⟨b, c, vs, h1, h2, h3, h4⟩ := s.hrel.obj i _ hid
          refine ⟨b, c, vs, (hB i hlt).trans h1, h2, ⟨by simpa using h3.1, fun k x v hx hv => ?_⟩, h4⟩
          rw [List.getElem?_set] at hx
          split at hx
          · rename_i e
            subst e
            split at hx
            · simp only [Option.some.injEq] at hx
              subst hx
              have : v = .slice none 0 0 := sc_eq (h3.2 j _ v hj hv)
              subst this
              refine .os (by simp) rfl (fun t' sz' rows hh => ?_)
              rw [getlast] at hh
              simp only [Option.some.injEq, AObj.arr.injEq] at hh
              obtain ⟨rfl, rfl, rfl⟩ := hh
              refine ⟨by simp, fun _ => ?_⟩
              unfold OsRel
              simp [B']
            · cases hx
          · exact (h3.2 k x v hx hv).mono st
        · rw [get i hlt hne] at h
          exact (s.hrel.obj i o h).keep st (hB i hlt) (fun _ _ _ => rfl)
      · have hi := (List.getElem?_eq_some_iff.1 h).1
        simp only [List.length_append, List.length_set, List.length_cons, List.length_nil] at hi
        have : i = H.length := by omega
        subst this
        rw [getlast] at h
        simp only [Option.some.injEq] at h
        subst h
        exact ⟨by simp, hsz, .inl ⟨if_pos rfl, rfl⟩⟩
    · intro i k b c d hi hk hdi hdk h1 h2
      have hi' := hlt' i hi (by rw [h1]; simp)
      have hk' := hlt' k hk (by rw [h2]; simp)
      rw [hB i hi'] at h1
      rw [hB k hk'] at h2
      exact s.hrel.inj i k b c d hi' hk' (dead i hi' hdi) (dead k hk' hdk) h1 h2
    · intro i b c hi hd h1
      have hi' := hlt' i hi (by rw [h1]; simp)
      rw [hB i hi'] at h1
      exact s.hrel.sep i b c hi' (dead i hi' hd) h1
  have s' := s.mono st hr
  exact ⟨B', S, s'.entry, s'.step, s'.hrel, s'.tmps, s'.defers⟩
end
end Go.Proofs.YtpfjlifneibhfaaGreat.AL
namespace Go.Proofs.YtpfjlifneibhfaaGreat.AL
variable [G : GTab]
/-- Whatever is told by p is told by q. -/
def PCv (p q : PV) : Prop := ∀ w S v, PRel w S p v → PRel w S q v
theorem PCv.refl (p : PV) : PCv p p := fun _ _ _ h => h
theorem PCv.nil {sz : Nat} (h : 0 < sz) : PCv (.sc (.slice none 0 0)) (.rs sz []) := by
  intro w S v hv
  cases hv with
  | sc hv => exact .rs (rows := []) (fun _ _ => undef) (Nat.le_refl _) (Nat.zero_le _) h (fun _ => rfl) (by simp) (by simp) (by simp)
def PCvR : List PV → List PV → Prop
  | [], [] => True
  | a :: asx, b :: bs => PCv a b ∧ PCvR asx bs
  | _, _ => False
def PCvRs : List (List PV) → List (List PV) → Prop
  | [], [] => True
  | a :: asx, b :: bs => PCvR a b ∧ PCvRs asx bs
  | _, _ => False
theorem PCvR.get : ∀ {asx bs : List PV}, PCvR asx bs → asx.length = bs.length ∧ ∀ (j : Nat) (b : PV), bs[j]? = some b → ∃ a, asx[j]? = some a ∧ PCv a b
  | [], [], _ => ⟨rfl, fun j b h => by simp at h⟩
  | [], _ :: _, h => h.elim
  | _ :: _, [], h => h.elim
  | a :: asx, b :: bs, h => by
    obtain ⟨h1, h2⟩ := h
    obtain ⟨g1, g2⟩ := PCvR.get h2
    refine ⟨by simp [g1], fun j c hj => ?_⟩
    cases j with
    | zero => simp only [List.getElem?_cons_zero, Option.some.injEq] at hj; subst hj; exact ⟨a, rfl, h1⟩
    | succ j => simp only [List.getElem?_cons_succ] at hj ⊢; exact g2 j c hj
theorem PCvRs.get : ∀ {asx bs : List (List PV)}, PCvRs asx bs → asx.length = bs.length ∧ ∀ (j : Nat) (b : List PV), bs[j]? = some b → ∃ a, asx[j]? = some a ∧ PCvR a b
  | [], [], _ => ⟨rfl, fun j b h => by simp at h⟩
  | [], _ :: _, h => h.elim
  | _ :: _, [], h => h.elim
  | a :: asx, b :: bs, h => by
    obtain ⟨h1, h2⟩ := h
    obtain ⟨g1, g2⟩ := PCvRs.get h2
    refine ⟨by simp [g1], fun j c hj => ?_⟩
    cases j with
    | zero => simp only [List.getElem?_cons_zero, Option.some.injEq] at hj; subst hj; exact ⟨a, rfl, h1⟩
    | succ j => simp only [List.getElem?_cons_succ] at hj ⊢; exact g2 j c hj
theorem PCv.rs {sz : Nat} {rows rows' : List (List PV)} (h : PCvRs rows rows') : PCv (.rs sz rows) (.rs sz rows') := by
  intro w S v hv
  obtain ⟨g1, g2⟩ := h.get
  cases hv with
  | @rs _ _ A c V hc hm hp hA hsz hcell hrel =>
    have back : ∀ (i : Nat) (r' : List PV) (j : Nat) (p' : PV), rows'[i]? = some r' → r'[j]? = some p' → ∃ (r : List PV) (p : PV), rows[i]? = some r ∧ r[j]? = some p ∧ PCv p p' := by
      intro i r' j p' hi hj
      obtain ⟨r, hr, hrr⟩ := g2 i r' hi
      obtain ⟨_, q2⟩ := hrr.get
      obtain ⟨p, hp, hpp⟩ := q2 j p' hj
      exact ⟨r, p, hr, hp, hpp⟩
    rw [g1]
    refine .rs V (by omega) hm hp hA ?_ ?_ ?_
    · intro r' hr'
      obtain ⟨i, hi⟩ := List.getElem?_of_mem hr'
      obtain ⟨r, hr, hrr⟩ := g2 i r' hi
      rw [← hrr.get.1]
      exact hsz r (List.mem_of_getElem? hr)
    · intro i r' j p' hi hj
      obtain ⟨r, p, hr, hp', _⟩ := back i r' j p' hi hj
      exact hcell i r j p hr hp'
    · intro i r' j p' hi hj
      obtain ⟨r, p, hr, hp', hpp⟩ := back i r' j p' hi hj
      exact hpp _ _ _ (hrel i r j p hr hp')
theorem Cv.pv {p q : PV} (h : PCv p q) : Cv (.pv p) (.pv q) := by
  intro w B S H v hv
  cases hv with
  | pv hv => exact .pv (h _ _ _ hv)
def AV.fl1 : AV → Bool
  | .pv (.sc _) => true
  | _ => false
def AV.fl2 : AV → Bool
  | .pv (.sc _) => true
  | .agg cs => cs.all AV.fl1
  | _ => false
/-- Plain: it does not speak of memory. -/
def AV.fl3 : AV → Bool
  | .tup cs => cs.all AV.fl2
  | a => a.fl2
section
variable {w w' : World} {B B' : BMap} {S S' : Nat → Prop} {H H' : List AObj}
theorem fl1_rel {a : AV} {v : Value} (hf : a.fl1 = true) (h : ARel w B S H a v) : ARel w' B' S' H' a v := by
  cases h with
  | pv h => cases h with
    | sc h => exact .pv (.sc h)
    | rs => simp [AV.fl1] at hf
  | _ => simp [AV.fl1] at hf
theorem fl2_rel {a : AV} {v : Value} (hf : a.fl2 = true) (h : ARel w B S H a v) : ARel w' B' S' H' a v := by
  cases h with
  | pv h => cases h with
    | sc h => exact .pv (.sc h)
    | rs => simp [AV.fl2] at hf
  | agg hl h1 h =>
    simp only [AV.fl2, List.all_eq_true] at hf
    exact .agg hl h1 (fun j c v hc hv => fl1_rel (hf c (List.mem_of_getElem? hc)) (h j c v hc hv))
  | _ => simp [AV.fl2] at hf
theorem fl3_rel {a : AV} {v : Value} (hf : a.fl3 = true) (h : ARel w B S H a v) : ARel w' B' S' H' a v := by
  cases h with
  | tup hl h =>
    simp only [AV.fl3, List.all_eq_true] at hf
    exact .tup hl (fun j c v hc hv => fl2_rel (hf c (List.mem_of_getElem? hc)) (h j c v hc hv))
  | pv h => exact fl2_rel (B := B) (H := H) (by simpa [AV.fl3] using hf) (.pv h)
  | agg hl h1 h => exact fl2_rel (B := B) (H := H) (by simpa [AV.fl3] using hf) (.agg hl h1 h)
  | _ => simp [AV.fl3, AV.fl2] at hf
/-- A function that only reads may be lent rows of one's own. -/
theorem ARun.lend {P : Program} {f : FuncId} {args args' : List AV} {v : AV} (d : Nat) (h : ARun P f args' [] (.ret v [])) (ha : CvL (args.map fun c => c.low H 0 d) args') (hv : v.fl3 = true) : ARun P f args H (.ret v H) := by
  refine ⟨h.call, fun w B S vs hr hargs => ?_⟩
  have hr0 := drop_rel hr (m := 0) (Nat.zero_le _) (fun id o hid => by omega)
  rw [List.take_zero] at hr0
  have ha0 : ARelL w B (Rest B S H 0) [] args' vs := by
    obtain ⟨g1, g2⟩ := ha.get
    refine ⟨by rw [← g1, List.length_map]; exact hargs.1, fun j c v hc hv => ?_⟩
    obtain ⟨c1, hc1, hcv⟩ := g2 j c hc
    simp only [List.getElem?_map, Option.map_eq_some_iff] at hc1
    obtain ⟨c', hc, rfl⟩ := hc1
    have := low_rel (n := d) hr (m := 0) (Nat.zero_le _) (hargs.2 j c' v hc hv)
    rw [List.take_zero] at this
    exact hcv _ _ _ _ _ this
  refine (h.run w B _ vs hr0 ha0).mono ?_
  rintro e w' ⟨B', S', st, hr', he⟩
  cases e with
  | panicked c => exact he.elim
  | outgrown => exact he.elim
  | returned x =>
    have st2 : Step w B S H w' B S H := ⟨st.os, st.tape, st.output, st.size, fun _ h => h, fun b hb => st.keep b (.inl hb), Nat.le_refl _,
      fun id t sz rows h => .inr ⟨rows, h, Nat.le_refl _, fun _ => rfl⟩, fun id _ h => ⟨rfl, h⟩⟩
    refine ⟨B, S, st2, ⟨?_, hr.inj, hr.sep, fun b hb => Nat.lt_of_lt_of_le (hr.bound b hb) st.size, hr.glob.mono (fun _ h => h) st2.keep⟩, fl3_rel hv he⟩
    intro id o ho
    replace ho : H[id]? = some o := ho
    have hlt := (List.getElem?_eq_some_iff.1 ho).1
    cases o with
    | dead => trivial
    | cells t cs => exact (hr.obj id _ ho).keep st2 rfl (fun b c hB => st.keep b (.inr ⟨id, c, Nat.zero_le _, hlt, by rw [ho]; simp, hB⟩))
    | arr t sz rows => exact (hr.obj id _ ho).keep st2 rfl (fun b c hB => st.keep b (.inr ⟨id, c, Nat.zero_le _, hlt, by rw [ho]; simp, hB⟩))
    | smap es => exact (hr.obj id _ ho).keep st2 rfl (fun b c hB => st.keep b (.inr ⟨id, c, Nat.zero_le _, hlt, by rw [ho]; simp, hB⟩))
    | imap es => exact (hr.obj id _ ho).keep st2 rfl (fun b c hB => st.keep b (.inr ⟨id, c, Nat.zero_le _, hlt, by rw [ho]; simp, hB⟩))
end
section
variable {P : Program} {H0 : List AObj} {Q : AEx → List AV → List AObj → List ADef → Prop} {tm : List AV} {H : List AObj} {AD : List ADef}
theorem awpd_region_k {id : Nat} {l : List Oper} (h : ∀ (Kn : List AV → List AObj → Prop) (Kp : AV → List AV → List AObj → Prop), (∀ tm H, Q .normal tm H AD → Kn tm H) → (∀ x tm H, Q (.pan x) tm H AD → Kp x tm H) → AWL P l (AEx.two Kn Kp) l tm H) :
    AWPD P H0 (.region id l.toArray false) Q tm H AD := by
  refine awpd_of (awp_region (h (fun tm H => Q .normal tm H AD) (fun x tm H => Q (.pan x) tm H AD) (fun _ _ h => h) (fun _ _ _ h => h))) ?_
  intro e tm H hq
  cases e <;> first | exact hq | exact hq.elim
theorem awpd_drawn_k {id : Nat} {l : List Oper} (effs bad : List Nat) (plan : List OpPlan) (ne : Nat) (hm : P.follows .mixedOrders = true)
    (hok : (drawOk l (ancTab l) effs (winsOf l effs) && bad.all (· < l.length) && decide (planOf l effs bad = plan) && effs.length == ne) = true)
    (h : ∀ (Kn : List AV → List AObj → Prop) (Kp : AV → List AV → List AObj → Prop), (∀ tm H, Q .normal tm H AD → Kn tm H) → (∀ x tm H, Q (.pan x) tm H AD → Kp x tm H) →
      AWSeq P l (fun T H' Hs => Hs.getD 0 [] = H ∧ GoodP P l T (AEx.two Kn Kp) Hs plan l ∧ (bad = [] → Kn T (Hs.getD ne []))) plan l tm H [H]) : AWPD P H0 (.region id l.toArray true) Q tm H AD := by
  refine awpd_of (awp_drawn (Q := AEx.two (fun tm H => Q .normal tm H AD) (fun x tm H => Q (.pan x) tm H AD)) effs bad plan ne hm hok (h _ _ (fun _ _ h => h) (fun _ _ _ h => h))) ?_
  intro e tm H hq
  cases e <;> first | exact hq | exact hq.elim
end
end Go.Proofs.YtpfjlifneibhfaaGreat.AL
namespace Go.Proofs.YtpfjlifneibhfaaGreat.AL
attribute [go_sem] aExt aEq0 RetD AEx.thnD aEqStep aEq aEqV aEqFs aEqIs aws_nil aws_skip aws_pan aws_eff aws_win awsg_true awsg_false awsr_next awsr_enter awsr_enterF awso_true awso_false GoodP AllAt OGW OGR PGW PGR DstIs awl_nil awl_cons awg_true awg_false awr_next awr_pan awr_enter awr_run awo_ret awo_pan aWanted aStep aev aput aCall AV.ofV AV.ofV1 AV.sc ARes.ofV AV.cells AV.one aZero aLoad aPart aStore aSplice aOff aField aPartV aIndexAddr aIndex aLen aSlice aBound aBuild aFill aSliceLit aFillRows aMakeSlice aAppend aRows aInt AV.intOf? ADesc.isAgg Value.oneCell' AEx.thn AEx.inBlock AEx.two aResultL aResult aOne RetQ AOut.H getO0 getOk setO0 setOk getS0 getSk setS0 setSk
attribute [go_sem] true_implies false_implies List.getD_cons_zero List.getD_cons_succ List.getElem?_cons_zero List.getElem?_cons_succ List.getElem?_nil List.set_cons_zero List.set_cons_succ Option.getD_some Option.getD_none Option.isSome_some Option.isSome_none Option.map_some Option.map_none Option.bind_some Option.bind_none List.length_cons List.length_nil List.length_append List.length_set List.length_map List.map_cons List.map_nil List.all_cons List.all_nil List.append_assoc List.cons_append List.nil_append List.append_nil List.take_succ_cons List.take_zero List.drop_succ_cons List.drop_zero List.take_nil List.drop_nil List.replicate_succ List.replicate_zero Nat.zero_add Nat.add_zero Nat.zero_mul Nat.add_assoc Int.one_mul Bool.and_true Bool.true_and Bool.and_self Bool.or_false Bool.and_false Bool.false_and and_true true_and and_self or_true true_or or_false false_or if_true if_false Bool.false_eq_true Bool.not_true Bool.not_false beq_self_eq_true decide_true decide_false Nat.lt_irrefl Nat.le_refl Int.ofNat_eq_natCast Int.cast_ofNat_Int Fin.isValue List.getElem?_map Int.toNat_natCast Int.natCast_nonneg gt_iff_lt ge_iff_le beq_true beq_false
end Go.Proofs.YtpfjlifneibhfaaGreat.AL
namespace Go.Proofs.YtpfjlifneibhfaaGreat.AL
theorem pick_or (b y : Bool) : (if b = true then AV.pv (.sc (.bool true)) else AV.pv (.sc (.bool y))) = AV.pv (.sc (.bool (b || y))) := by cases b <;> rfl
theorem pick_and (b y : Bool) : (if b = true then AV.pv (.sc (.bool y)) else AV.pv (.sc (.bool false))) = AV.pv (.sc (.bool (b && y))) := by cases b <;> rfl
attribute [go_sem] pick_or pick_and SameAt aMakeMap aLookup aUpdate aByte aMakeMapI aLookupI aUpdateI aUpdateI0 AV.toMap ofMap_fn
end Go.Proofs.YtpfjlifneibhfaaGreat.AL
namespace Go.Proofs.YtpfjlifneibhfaaGreat.AL
variable [G : GTab]
def AEx.noGo (Q : AEx → List AV → List AObj → Prop) : AEx → List AV → List AObj → Prop
  | .goto _, _, _ => False
  | e, tm, H => Q e tm H
theorem awp_scope {P : Program} {H0 : List AObj} {Q : AEx → List AV → List AObj → Prop} {tm : List AV} {H : List AObj} {c : Code} (h : AWP P H0 c (AEx.noGo Q) tm H) : AWP P H0 (.scope c) Q tm H := by
  intro w0 B0 S0 D a w B S s
  refine wp_scope_straight (wp_mono (h w0 B0 S0 D a w B S s) ?_)
  rintro e a' w' ⟨x, tm', H', B', S', hq, s', hx⟩
  cases x <;> cases e <;> simp only [XRel] at hx <;> try (exact hx.elim)
  case normal.normal => exact ⟨_, _, _, _, _, hq, s', trivial⟩
  case exit.exit => exact ⟨_, _, _, _, _, hq, s', hx⟩
  case goto.goto => exact hq.elim
  case ret.ret => exact ⟨_, _, _, _, _, hq, s', trivial⟩
  case pan.panic => exact ⟨_, _, _, _, _, hq, s', hx⟩
attribute [go_sem] AEx.noGo
end Go.Proofs.YtpfjlifneibhfaaGreat.AL
namespace Go.Proofs.YtpfjlifneibhfaaGreat.AL
variable [G : GTab]
theorem Fin.set0 {H0 : List AObj} {i : Nat} {y : AObj} {v v2 : AV} (d : Nat) (hy : y.under H0.length) (hv : v2 = v.low (H0.set i y) H0.length d) : Fin H0 (H0.set i y) v (H0.set i y) v2 := by
  have := Fin.set (H0 := H0) (L := []) (i := i) (y := y) (v := v) (v2 := v2) d hy (by simpa using hv)
  simpa using this
end Go.Proofs.YtpfjlifneibhfaaGreat.AL
namespace Go.Proofs.YtpfjlifneibhfaaGreat.AL
variable [G : GTab]
end Go.Proofs.YtpfjlifneibhfaaGreat.AL
namespace Go.Proofs.YtpfjlifneibhfaaGreat.AL
variable [G : GTab]
end Go.Proofs.YtpfjlifneibhfaaGreat.AL
namespace Go.Proofs.YtpfjlifneibhfaaGreat.AL
variable [G : GTab]
end Go.Proofs.YtpfjlifneibhfaaGreat.AL
namespace Go.Proofs.YtpfjlifneibhfaaGreat.AL
variable [G : GTab]
end Go.Proofs.YtpfjlifneibhfaaGreat.AL
namespace Go.Proofs.YtpfjlifneibhfaaGreat.AL
variable [G : GTab]
/-- A schedule, laid out: each one is ready when it comes. -/
def Topo (ops : Array Oper) : List Nat → Array Bool → Prop
  | [], listed => Region.ready .any ops listed = []
  | i :: L, listed => i ∈ Region.ready .any ops listed ∧ Topo ops L (listed.setIfInBounds i true)
theorem wpAny_topo {P : Program} {ops : Array Oper} {Q : Exit → Act → World → Prop} : ∀ (L : List Nat) (fuel : Nat) (listed : Array Bool) (a : Act) (w : World),
    wpAny P .any ops Q fuel listed a w → Topo ops L listed → wpOps P ops Q L a w
  | [], fuel, listed, a, w, h, t => by
    cases fuel with
    | zero => exact h.2
    | succ fuel => exact h.1 t
  | i :: L, fuel, listed, a, w, h, t => by
    cases fuel with
    | zero => have := t.1; rw [h.1] at this; cases this
    | succ fuel =>
      rw [wpOps_cons]
      exact wpOp_mono (fun a w k => wpAny_topo L fuel _ a w k t.2) (h.2 i t.1)
def unlisted (n : Nat) (listed : Array Bool) : Nat := ((List.range n).filter fun i => !listed.getD i true).length
theorem unlisted_set {n : Nat} {listed : Array Bool} {i : Nat} (hi : i < n) (h : listed.getD i true = false) : unlisted n (listed.setIfInBounds i true) < unlisted n listed := by
  have hlt : i < listed.size := by
    rcases Nat.lt_or_ge i listed.size with h' | h'
    · exact h'
    · simp [Array.getD_eq_getD_getElem?, Array.getElem?_eq_none h'] at h
  unfold unlisted
  have hsub : ((List.range n).filter fun k => !(listed.setIfInBounds i true).getD k true) = ((List.range n).filter fun k => !listed.getD k true).filter (fun k => k != i) := by
    rw [List.filter_filter]
    apply List.filter_congr
    intro k hk
    simp only [Array.getD_eq_getD_getElem?, Array.getElem?_setIfInBounds]
    by_cases e : i = k
    · subst e; simp [hlt]
    · simp [e, show ¬ k = i from fun h => e h.symm]
  rw [hsub]
  exact List.length_filter_lt_length_iff_exists.2 ⟨i, List.mem_filter.2 ⟨by simpa using hi, by simpa using h⟩, by simp⟩
theorem ready_lt {ops : Array Oper} {listed : Array Bool} {i : Nat} (h : i ∈ Region.ready .any ops listed) : listed.getD i true = false ∧ i < ops.size := by
  obtain ⟨h1, o, ho, _⟩ := mem_ready.1 h
  exact ⟨h1, (Array.getElem?_eq_some_iff.1 ho).1⟩
theorem go_topo {ops : Array Oper} : ∀ (fuel t : Nat) (listed : Array Bool), unlisted ops.size listed ≤ fuel → Topo ops (Region.linearise.go .any ops fuel t listed []) listed := by
  intro fuel
  induction fuel with
  | zero =>
    intro t listed hf
    simp only [Region.linearise.go, List.reverse_nil, Topo]
    cases hr : Region.ready .any ops listed with
    | nil => rfl
    | cons i rs =>
      exfalso
      have hm : i ∈ Region.ready .any ops listed := by rw [hr]; simp
      obtain ⟨h1, h2⟩ := ready_lt hm
      have := unlisted_set h2 h1
      omega
  | succ fuel ih =>
    intro t listed hf
    simp only [Region.linearise.go]
    change Topo ops (match (Region.ready .any ops listed)[t % (Region.ready .any ops listed).length]? with
      | some i => Region.linearise.go .any ops fuel (t / (Region.ready .any ops listed).length) (listed.setIfInBounds i true) [i]
      | none => [].reverse) listed
    cases hi : (Region.ready .any ops listed)[t % (Region.ready .any ops listed).length]? with
    | none =>
      simp only [List.reverse_nil, Topo]
      cases hr : Region.ready .any ops listed with
      | nil => rfl
      | cons x xs =>
        rw [hr] at hi
        have hlt : t % (x :: xs).length < (x :: xs).length := Nat.mod_lt _ (by simp)
        simp at hi
        simp at hlt
        omega
    | some i =>
      simp only []
      rw [linearise_go_acc, List.reverse_singleton, List.singleton_append]
      have hm := List.mem_of_getElem? hi
      obtain ⟨h1, h2⟩ := ready_lt hm
      have := unlisted_set h2 h1
      exact ⟨hm, ih _ _ (by omega)⟩
/-! ### an order of the effects, as further edges -/
def prevOf : List Nat → Nat → Option Nat
  | a :: b :: rest, i => if b = i then some a else prevOf (b :: rest) i
  | _, _ => none
theorem prevOf_some : ∀ {σ : List Nat} {i k : Nat}, prevOf σ i = some k → ∃ x y, σ = x ++ k :: i :: y
  | [], _, _, h => by simp [prevOf] at h
  | [_], _, _, h => by simp [prevOf] at h
  | a :: b :: rest, i, k, h => by
    simp only [prevOf] at h
    split at h
    · rename_i e
      simp only [Option.some.injEq] at h
      subst h; subst e
      exact ⟨[], rest, rfl⟩
    · obtain ⟨x, y, e⟩ := prevOf_some h
      exact ⟨a :: x, y, by rw [e]; rfl⟩
theorem nodup_split {i : Nat} : ∀ {a c b d : List Nat}, (a ++ i :: b).Nodup → a ++ i :: b = c ++ i :: d → a = c
  | [], [], _, _, _, _ => rfl
  | [], x :: c, b, d, hn, h => by
    simp only [List.nil_append, List.cons_append, List.cons.injEq] at h
    obtain ⟨rfl, h⟩ := h
    rw [h] at hn
    simp at hn
  | x :: a, [], b, d, hn, h => by
    simp only [List.nil_append, List.cons_append, List.cons.injEq] at h
    obtain ⟨rfl, h⟩ := h
    simp at hn
  | x :: a, y :: c, b, d, hn, h => by
    simp only [List.cons_append, List.cons.injEq] at h
    obtain ⟨rfl, h⟩ := h
    rw [nodup_split (List.nodup_cons.1 hn).2 h]
def withPrev (σ : List Nat) (i : Nat) (o : Oper) : Oper := { o with after := o.after ++ ((prevOf σ i).map fun k => ({ on := k, ground := .data } : Edge)).toList.toArray }
def ordered (σ : List Nat) : Nat → List Oper → List Oper
  | _, [] => []
  | i, o :: rest => withPrev σ i o :: ordered σ (i + 1) rest
theorem ordered_get {σ : List Nat} : ∀ {l : List Oper} {k i : Nat}, (ordered σ k l)[i]? = (l[i]?).map (withPrev σ (k + i))
  | [], k, i => by simp [ordered]
  | o :: rest, k, 0 => by simp [ordered]
  | o :: rest, k, i + 1 => by simp only [ordered, List.getElem?_cons_succ]; rw [ordered_get]; congr 2; omega
theorem ordered_len {σ : List Nat} : ∀ {l : List Oper} {k : Nat}, (ordered σ k l).length = l.length
  | [], k => rfl
  | o :: rest, k => by simp [ordered, ordered_len]
theorem wpOps_ordered {P : Program} {σ : List Nat} {l : List Oper} {Q : Exit → Act → World → Prop} : ∀ (L : List Nat) (a : Act) (w : World), wpOps P (ordered σ 0 l).toArray Q L a w → wpOps P l.toArray Q L a w
  | [], a, w, h => h
  | i :: L, a, w, h => by
    rw [wpOps_cons] at h ⊢
    unfold wpOp at h ⊢
    have e : (ordered σ 0 l).toArray[i]? = (l.toArray[i]?).map (withPrev σ i) := by simp [ordered_get]
    rw [e] at h
    cases ho : l.toArray[i]? with
    | none => rw [ho] at h; exact wpOps_ordered L a w h
    | some o =>
      rw [ho] at h
      simp only [Option.map_some] at h ⊢
      have hy : yielded (ordered σ 0 l).toArray a.tmps = yielded l.toArray a.tmps := by
        funext j
        unfold yielded
        have e : (ordered σ 0 l).toArray[j]? = (l.toArray[j]?).map (withPrev σ j) := by simp [ordered_get]
        rw [e]
        cases l.toArray[j]? <;> rfl
      rw [hy] at h
      have hw : Region.wanted (withPrev σ i o) (yielded l.toArray a.tmps) = Region.wanted o (yielded l.toArray a.tmps) := rfl
      rw [hw] at h
      split at h
      · rename_i hb
        rw [if_pos hb]
        refine h.imp (fun h => ?_) id
        have h2 : o.wp P a w (wpOps P (ordered σ 0 l).toArray Q L) Q := h
        exact Oper.wp_mono (fun a w k => wpOps_ordered L a w k) h2
      · rename_i hb
        rw [if_neg hb]
        exact wpOps_ordered L _ _ h
theorem topo_ordered {l : List Oper} {σ : List Nat} (hn : σ.Nodup) : ∀ (L : List Nat) (listed : Array Bool) (τ : List Nat), listed.size = l.length → σ = τ ++ L.filter (fun i => σ.contains i) → (∀ k ∈ τ, listed.getD k false = true) →
    Topo l.toArray L listed → Topo (ordered σ 0 l).toArray L listed
  | [], listed, τ, hs, he, hτ, h => by
    simp only [Topo] at h ⊢
    cases hr : Region.ready .any (ordered σ 0 l).toArray listed with
    | nil => rfl
    | cons i rs =>
      exfalso
      have hm : i ∈ Region.ready .any (ordered σ 0 l).toArray listed := by rw [hr]; simp
      obtain ⟨h1, o, ho, h2⟩ := mem_ready.1 hm
      have e : (ordered σ 0 l).toArray[i]? = (l.toArray[i]?).map (withPrev σ i) := by simp [ordered_get]
      rw [e] at ho
      cases hx : l.toArray[i]? with
      | none => rw [hx] at ho; cases ho
      | some o0 =>
        rw [hx] at ho
        simp only [Option.map_some, Option.some.injEq] at ho
        subst ho
        have : i ∈ Region.ready .any l.toArray listed := mem_ready.2 ⟨h1, o0, hx, fun e he hb => h2 e (by simp only [withPrev]; exact Array.mem_append.2 (.inl he)) hb⟩
        rw [h] at this
        cases this
  | i :: L, listed, τ, hs, he, hτ, h => by
    obtain ⟨hi, h⟩ := h
    obtain ⟨h1, h2⟩ := ready_lt hi
    have hlt : i < listed.size := by rw [hs]; simpa using h2
    refine ⟨?_, ?_⟩
    · obtain ⟨h1, o, ho, h2⟩ := mem_ready.1 hi
      refine mem_ready.2 ⟨h1, withPrev σ i o, ?_, ?_⟩
      · have e : (ordered σ 0 l).toArray[i]? = (l.toArray[i]?).map (withPrev σ i) := by simp [ordered_get]
        rw [e, ho]; rfl
      · intro e hem hb
        simp only [withPrev] at hem
        rcases Array.mem_append.1 hem with hem | hem
        · exact h2 e hem hb
        · cases hp : prevOf σ i with
          | none => rw [hp] at hem; simp at hem
          | some k =>
            rw [hp] at hem
            simp only [Option.map_some, Option.toList_some, List.mem_toArray, List.mem_singleton] at hem
            subst hem
            obtain ⟨x, y, exy⟩ := prevOf_some hp
            have hc : σ.contains i = true := by rw [exy]; simp
            rw [List.filter_cons, if_pos hc] at he
            have hn' := hn
            rw [he] at hn'
            have hh : τ ++ i :: L.filter (fun i => σ.contains i) = (x ++ [k]) ++ i :: y := by rw [← he, exy]; simp
            have := nodup_split hn' hh
            exact hτ k (by rw [this]; simp)
    · have hset : ∀ k, (k = i ∨ listed.getD k false = true) → (listed.setIfInBounds i true).getD k false = true := by
        intro k hk
        exact (lst_set (listed := listed) (i := i) (k := k) hlt).2 hk
      by_cases hc : σ.contains i = true
      · rw [List.filter_cons, if_pos hc] at he
        refine topo_ordered hn L _ (τ ++ [i]) (by simpa using hs) (by simpa using he) (fun k hk => ?_) h
        simp only [List.mem_append, List.mem_singleton] at hk
        exact hset k (hk.elim (fun h => .inr (hτ k h)) .inl)
      · rw [List.filter_cons, if_neg hc] at he
        exact topo_ordered hn L _ τ (by simpa using hs) he (fun k hk => hset k (.inr (hτ k hk))) h
/-- All orders of the effects. -/
def exts (tab : List (List Nat)) : Nat → List Nat → List (List Nat)
  | 0, _ => [[]]
  | n + 1, rem => if rem = [] then [[]] else (rem.filter fun e => rem.all fun k => !(tab.getD e []).contains k).flatMap fun e => (exts tab n (rem.filter (· != e))).map (e :: ·)
def ancOk (l : List Oper) (tab : List (List Nat)) : Bool := (List.range l.length).all fun i =>
    (opAfter l i).all (· < i) && ((tab.getD i []).all fun k => (opAfter l i).any fun e => k == e || (tab.getD e []).contains k)
theorem topo_order {l : List Oper} {tab : List (List Nat)} {effs : List Nat} (ha : ancOk l tab = true) (hn : effs.Nodup) (hlt : ∀ e ∈ effs, e < l.length) : ∀ (L : List Nat) (listed : Array Bool) (n : Nat), listed.size = l.length →
    (∀ i, Lst listed i → ∀ k ∈ tab.getD i [], Lst listed k) → (effs.filter fun e => !listed.getD e false).length ≤ n → Topo l.toArray L listed → L.filter (fun i => effs.contains i) ∈ exts tab n (effs.filter fun e => !listed.getD e false) := by
  have haft : ∀ i, i < l.length → ∀ k ∈ opAfter l i, k < i := by
    intro i hi k hk
    unfold ancOk at ha
    simp only [List.all_eq_true, List.mem_range, Bool.and_eq_true, decide_eq_true_eq] at ha
    exact (ha i hi).1 k hk
  have hanc : ∀ i, i < l.length → ∀ k ∈ tab.getD i [], ∃ e ∈ opAfter l i, k = e ∨ k ∈ tab.getD e [] := by
    intro i hi k hk
    unfold ancOk at ha
    simp only [List.all_eq_true, List.mem_range, Bool.and_eq_true, decide_eq_true_eq] at ha
    have := (ha i hi).2 k hk
    simp only [List.any_eq_true, Bool.or_eq_true, beq_iff_eq, List.contains_iff_mem] at this
    exact this
  intro L
  induction L with
  | nil =>
    intro listed n hs hcl hn' h
    have hall : ∀ i, i < l.length → Lst listed i := by
      intro i
      induction i using Nat.strongRecOn with
      | _ i ih =>
        intro hi
        cases hl : listed.getD i false with
        | true => exact hl
        | false =>
          exfalso
          have : i ∈ Region.ready .any l.toArray listed := by
            rw [mem_ready]
            refine ⟨?_, l[i], by simp [hi], ?_⟩
            · have hlt : i < listed.size := by omega
              simp only [Array.getD_eq_getD_getElem?, Array.getElem?_eq_getElem hlt, Option.getD_some] at hl ⊢
              exact hl
            · intro e he hb
              have hke : e.on ∈ opAfter l i := by
                unfold opAfter
                rw [List.getElem?_eq_getElem hi]
                simp only [List.mem_map, List.mem_filter]
                exact ⟨e, ⟨by simpa using he, hb⟩, rfl⟩
              have := haft i hi _ hke
              exact ih _ this (by omega)
          rw [h] at this
          cases this
    have he : (effs.filter fun e => !listed.getD e false) = [] := by
      rw [List.filter_eq_nil_iff]
      intro e hem
      have := hall e (hlt e hem)
      unfold Lst at this
      rw [this]; simp
    rw [he]
    cases n with
    | zero => simp [exts]
    | succ n => simp [exts]
  | cons i L ih =>
    intro listed n hs hcl hn' h
    obtain ⟨hi, h⟩ := h
    obtain ⟨h1, hil, haf⟩ := mem_ready' hi
    have hls : i < listed.size := by omega
    have hnot : listed.getD i false = false := by
      simp only [Array.getD_eq_getD_getElem?, Array.getElem?_eq_getElem hls, Option.getD_some] at h1 ⊢
      exact h1
    have hai : ∀ k ∈ tab.getD i [], Lst listed k := by
      intro k hk
      obtain ⟨e, he, hke⟩ := hanc i hil k hk
      rcases hke with rfl | hke
      · exact haf k he
      · exact hcl e (haf e he) k hke
    have hcl' : ∀ j, Lst (listed.setIfInBounds i true) j → ∀ k ∈ tab.getD j [], Lst (listed.setIfInBounds i true) k := by
      intro j hj k hk
      rw [lst_set hls] at hj ⊢
      rcases hj with rfl | hj
      · exact .inr (hai k hk)
      · exact .inr (hcl j hj k hk)
    have hfil : (effs.filter fun e => !(listed.setIfInBounds i true).getD e false) = (effs.filter fun e => !listed.getD e false).filter (· != i) := by
      rw [List.filter_filter]
      apply List.filter_congr
      intro k hk
      have := lst_set (listed := listed) (i := i) (k := k) hls
      unfold Lst at this
      by_cases e : k = i
      · subst e
        have h := this.2 (.inl rfl)
        rw [h]; simp
      · have h : (listed.setIfInBounds i true).getD k false = listed.getD k false := by
          rw [Bool.eq_iff_iff, this]
          constructor
          · rintro (h | h)
            · exact absurd h e
            · exact h
          · exact .inr
        rw [h]; simp [e]
    by_cases hc : effs.contains i = true
    · have hmem : i ∈ effs.filter fun e => !listed.getD e false := List.mem_filter.2 ⟨by simpa using hc, by rw [hnot]; rfl⟩
      rw [List.filter_cons, if_pos hc]
      cases n with
      | zero => have := List.length_pos_of_mem hmem; omega
      | succ n =>
        simp only [exts]
        rw [if_neg (by intro e; rw [e] at hmem; cases hmem)]
        rw [List.mem_flatMap]
        refine ⟨i, List.mem_filter.2 ⟨hmem, ?_⟩, ?_⟩
        · rw [List.all_eq_true]
          intro k hk
          simp only [Bool.not_eq_true', List.contains_eq_mem, decide_eq_false_iff_not]
          intro hk'
          have := hai k hk'
          unfold Lst at this
          have := (List.mem_filter.1 hk).2
          simp_all
        · rw [List.mem_map]
          refine ⟨_, ?_, rfl⟩
          rw [← hfil]
          refine ih _ n (by simpa using hs) hcl' ?_ h
          rw [hfil]
          have : ((effs.filter fun e => !listed.getD e false).filter (· != i)).length < (effs.filter fun e => !listed.getD e false).length := List.length_filter_lt_length_iff_exists.2 ⟨i, hmem, by simp⟩
          omega
    · rw [List.filter_cons, if_neg hc]
      have hsame : (effs.filter fun e => !(listed.setIfInBounds i true).getD e false) = effs.filter fun e => !listed.getD e false := by
        rw [hfil, List.filter_eq_self]
        intro k hk
        simp only [bne_iff_ne, ne_eq]
        rintro rfl
        exact hc (by simpa using (List.mem_filter.1 hk).1)
      rw [← hsame]
      exact ih _ n (by simpa using hs) hcl' (by rw [hsame]; exact hn') h
section
variable {P : Program} {H0 : List AObj} {Q : AEx → List AV → List AObj → Prop} {tm : List AV} {H : List AObj}
theorem opGood_ordered {σ : List Nat} {l : List Oper} {T : List AV} {H H' : List AObj} {o : Oper} {i : Nat} (h : OpGood P l T H o H') : OpGood P (ordered σ 0 l) T H (withPrev σ i o) H' := by
  have e : aWanted (ordered σ 0 l) T (withPrev σ i o) = aWanted l T o := by
    unfold aWanted
    simp only [withPrev]
    cases o.guard with
    | none => rfl
    | some jw =>
      simp only
      rw [ordered_get]
      cases l[jw.1]? <;> rfl
  unfold OpGood at h ⊢
  rw [e]
  exact h
theorem panGood_ordered {σ : List Nat} {l : List Oper} {T : List AV} {H : List AObj} {o : Oper} {i : Nat} (h : PanGood P l T Q H o) : PanGood P (ordered σ 0 l) T Q H (withPrev σ i o) := by
  have e : aWanted (ordered σ 0 l) T (withPrev σ i o) = aWanted l T o := by
    unfold aWanted
    simp only [withPrev]
    cases o.guard with
    | none => rfl
    | some jw =>
      simp only
      rw [ordered_get]
      cases l[jw.1]? <;> rfl
  unfold PanGood at h ⊢
  rw [e]
  exact h
theorem goodFrom_ordered {σ : List Nat} {l : List Oper} {T : List AV} {Hs : List (List AObj)} {effs : List Nat} {wins : List (Nat × Nat)} {tab : List (List Nat)} {bad : List Nat} : ∀ {rest : List Oper} {i : Nat},
    GoodFrom P l T Hs effs wins tab bad Q i rest → GoodFrom P (ordered σ 0 l) T Hs effs wins tab bad Q i (ordered σ i rest)
  | [], i, h => trivial
  | o :: rest, i, h => by
    obtain ⟨h1, h2⟩ := h
    refine ⟨?_, goodFrom_ordered h2⟩
    split at h1
    · rw [if_pos ‹_›]; trivial
    · rw [if_neg ‹_›]
      split at h1
      · rw [if_pos ‹_›]
        split at h1
        · rw [if_pos ‹_›]; exact panGood_ordered h1
        · rw [if_neg ‹_›]; exact fun j hj => panGood_ordered (h1 j hj)
      · rw [if_neg ‹_›]
        split at h1
        · rw [if_pos ‹_›]; exact opGood_ordered h1
        · rw [if_neg ‹_›]; exact fun j hj => opGood_ordered (h1 j hj)
/-- As drawOk, where an operation may come behind one that stands later. -/
def drawOkR (l : List Oper) (tab : List (List Nat)) (rk effs : List Nat) (wins : List (Nat × Nat)) : Bool :=
  effs.Nodup && (effs.all (· < l.length)) &&
  (List.range l.length).all fun i =>
    ((opAfter l i).all fun k => decide (k < l.length) && decide (rk.getD k 0 < rk.getD i 0)) &&
    ((tab.getD i []).all fun k => (opAfter l i).any fun e => k == e || (tab.getD e []).contains k) &&
    (match l[i]? with
     | some o => notSelect o.op && (opTmps l o).all fun t => (List.range l.length).all fun j => opDst l j != some t || (tab.getD i []).contains j
     | none => false) &&
    ((List.range l.length).all fun j => j == i || (opDst l j).isNone || opDst l j != opDst l i) &&
    (!(effs.contains i) || (effs.take (effs.idxOf i)).all fun e => (tab.getD i []).contains e) &&
    wins.getD i (0, 0) == (winLo tab effs i, winHi tab effs i)
theorem drawOkR_spec {l : List Oper} {tab : List (List Nat)} {rk effs : List Nat} {wins : List (Nat × Nat)} (h : drawOkR l tab rk effs wins = true) : DOk l tab effs wins := by
  unfold drawOkR at h
  simp only [Bool.and_eq_true, List.all_eq_true, List.mem_range, decide_eq_true_eq] at h
  obtain ⟨⟨h1, h2⟩, h3⟩ := h
  refine ⟨h1, h2, ⟨fun i => rk.getD i 0, fun i hi k hk => (h3 i hi).1.1.1.1.1 k hk⟩, ?_, ?_, ?_, ?_, ?_, ?_⟩
  · intro i hi k hk
    have := (h3 i hi).1.1.1.1.2 k hk
    simp only [List.any_eq_true, Bool.or_eq_true, beq_iff_eq, List.contains_iff_mem] at this
    exact this
  · intro i o ho
    have := (h3 i (List.getElem?_eq_some_iff.1 ho).1).1.1.1.2
    rw [ho] at this
    simp only [Bool.and_eq_true] at this
    exact this.1
  · intro i o ho t ht j hj hd
    have := (h3 i (List.getElem?_eq_some_iff.1 ho).1).1.1.1.2
    rw [ho] at this
    simp only [Bool.and_eq_true, List.all_eq_true, List.mem_range, Bool.or_eq_true, bne_iff_ne, List.contains_iff_mem] at this
    exact .inl ((this.2 t ht j hj).resolve_left (fun hh => hh hd))
  · intro i j hi hj hne d hd hd'
    have := (h3 i hi).1.1.2 j hj
    simp only [Bool.or_eq_true, beq_iff_eq, bne_iff_ne, hd, hd'] at this
    rcases this with (h | h) | h
    · exact hne h
    · simp at h
    · exact h rfl
  · intro i hi hie e he
    have := (h3 i hi).1.2
    simp only [Bool.or_eq_true, Bool.not_eq_true', List.all_eq_true, List.contains_iff_mem] at this
    rcases this with h | h
    · have : effs.contains i = true := by simpa using hie
      rw [this] at h; cases h
    · exact h e he
  · intro i hi
    have := (h3 i hi).2
    simpa using this
/-- Ancestors, told in the order of a list. -/
def ancTabO (l : List Oper) (ord : List Nat) : List (List Nat) :=
  ord.foldl (fun tab i => tab.set i (((opAfter l i).flatMap fun k => k :: tab.getD k []).eraseDups)) (List.replicate l.length [])
def winsT (tab : List (List Nat)) (n : Nat) (effs : List Nat) : List (Nat × Nat) := (List.range n).map fun i => (winLo tab effs i, winHi tab effs i)
/-- One order: the effects; all operations, so that each comes behind what it comes after; the plan. -/
def orderOkT (l : List Oper) (bad : List Nat) (ne : Nat) (x : List Nat × List Nat × List OpPlan) (tab : List (List Nat)) : Bool :=
  drawOkR (ordered x.1 0 l) tab ((List.range l.length).map x.2.1.idxOf) x.1 (winsT tab l.length x.1) &&
  decide (planFrom tab x.1 (winsT tab l.length x.1) bad 0 l.length = x.2.2) && x.1.length == ne
def pick {α : Type} (xs : List α) : List Nat → List α
  | [] => []
  | i :: is => match xs[i]? with
    | some x => x :: pick xs is
    | none => pick xs is
theorem pick_mem {α : Type} {xs : List α} {x : α} : ∀ {is : List Nat}, x ∈ pick xs is → x ∈ xs
  | [], h => by cases h
  | i :: is, h => by
    simp only [pick] at h
    cases hx : xs[i]? with
    | none => rw [hx] at h; exact pick_mem h
    | some y =>
      rw [hx] at h
      rcases List.mem_cons.1 h with rfl | h
      · exact List.mem_of_getElem? hx
      · exact pick_mem h
def orderOk (l : List Oper) (bad : List Nat) (ne : Nat) (x : List Nat × List Nat × List OpPlan) : Bool := orderOkT l bad ne x (ancTabO (ordered x.1 0 l) x.2.1)
/-- A region that draws its order, whose effects may come in several orders. -/
theorem awp_drawnO {id : Nat} {l : List Oper} (effs bad : List Nat) (orders : List (List Nat × List Nat × List OpPlan)) (ne : Nat) (hm : P.follows .mixedOrders = true)
    (hok : (ancOk l (ancTab l) && decide effs.Nodup && effs.all (· < l.length) && bad.all (· < l.length) && orders.all (orderOk l bad ne) &&
      (exts (ancTab l) effs.length effs).all (fun σ => orders.any (fun x => x.1 == σ) && σ.all (effs.contains ·) && effs.all (σ.contains ·))) = true)
    (h : ∀ x ∈ orders, AWSeq P l (fun T H' Hs => Hs.getD 0 [] = H ∧ GoodP P l T Q Hs x.2.2 l ∧ (bad = [] → Q .normal T (Hs.getD ne []))) (pick x.2.2 x.2.1) (pick l x.2.1) tm H [H]) : AWP P H0 (.region id l.toArray true) Q tm H := by
  intro w0 B0 S0 D a w B S s
  simp only [Bool.and_eq_true, List.all_eq_true, decide_eq_true_eq] at hok
  obtain ⟨⟨⟨⟨⟨ha, hn⟩, hlt⟩, hbad⟩, hord⟩, hext⟩ := hok
  refine wp_region_draw fun t => ?_
  simp only [Region.schedule, hm, Bool.true_or, if_true, Region.linearise]
  have hunl : unlisted l.toArray.size (Array.replicate l.toArray.size false) ≤ l.toArray.size := by
    unfold unlisted; exact Nat.le_trans (List.length_filter_le _ _) (by simp)
  have htopo := go_topo l.toArray.size t (Array.replicate l.toArray.size false) hunl
  generalize hL : Region.linearise.go .any l.toArray l.toArray.size t (Array.replicate l.toArray.size false) [] = L at htopo ⊢
  have hnone : ∀ i, (Array.replicate l.toArray.size false).getD i false = false := by
    intro i
    simp only [Array.getD_eq_getD_getElem?, Array.getElem?_replicate]
    split <;> rfl
  have hfil : (effs.filter fun e => !(Array.replicate l.toArray.size false).getD e false) = effs := by
    rw [List.filter_eq_self]; intro e _; rw [hnone]; rfl
  have hσ := topo_order ha hn hlt L (Array.replicate l.toArray.size false) effs.length (by simp) (fun i hi => by unfold Lst at hi; rw [hnone] at hi; cases hi) (by rw [hfil]; exact Nat.le_refl _) htopo
  rw [hfil] at hσ
  generalize hσe : L.filter (fun i => effs.contains i) = σ at hσ
  obtain ⟨⟨hany, hsub⟩, hsup⟩ := hext σ hσ
  obtain ⟨x, hx, hxe⟩ := List.any_eq_true.1 hany
  have hxe : x.1 = σ := by simpa using hxe
  obtain ⟨σ', ord, plan⟩ := x
  simp only at hxe
  subst hxe
  have hok := hord _ hx
  unfold orderOk at hok
  generalize htab : ancTabO (ordered σ' 0 l) ord = tab at hok
  unfold orderOkT at hok
  simp only [Bool.and_eq_true, decide_eq_true_eq, beq_iff_eq] at hok
  obtain ⟨⟨hok, hplan⟩, hne⟩ := hok
  have hk := drawOkR_spec hok
  obtain ⟨T, H', Hs, h1, h2, h3, h4, h5⟩ := (h _ hx).out
  simp only at h4 h5
  have hcc : ∀ i, effs.contains i = σ'.contains i := by
    intro i
    rw [Bool.eq_iff_iff]
    simp only [List.contains_iff_mem]
    exact ⟨fun hh => by simpa using hsup i hh, fun hh => by simpa using hsub i hh⟩
  have hσL : σ' = L.filter (fun i => σ'.contains i) := by
    rw [← hσe]
    conv => lhs; rw [show (fun i => effs.contains i) = (fun i => σ'.contains i) from funext hcc]
    rw [hσe]
  have htopo' := topo_ordered hk.nodup L (Array.replicate l.toArray.size false) [] (by simp) (by simpa using hσL) (by simp) htopo
  refine wpOps_ordered (σ := σ') L a _ ?_
  have hT : ∀ s, (∀ i, i < (ordered σ' 0 l).length → opDst (ordered σ' 0 l) i ≠ some s) → T[s]? = tm[s]? := by
    intro s hs
    refine h2 s (fun o ho hd => ?_)
    obtain ⟨i, hi, rfl⟩ := List.mem_iff_getElem.1 (pick_mem ho)
    refine hs i (by rw [ordered_len]; exact hi) ?_
    unfold opDst
    rw [ordered_get, List.getElem?_eq_getElem hi]
    exact hd
  have good : GoodFrom P (ordered σ' 0 l) T Hs σ' (winsT tab l.length σ') tab bad Q 0 (ordered σ' 0 l) := by
    apply goodFrom_ordered
    apply GoodP.from
    rw [hplan]
    exact h4
  have hnone' : ∀ i, ¬ Lst (Array.replicate l.toArray.size false) i := by
    intro i hi
    unfold Lst at hi
    rw [hnone] at hi
    cases hi
  subst h3
  have := draw_aux (P := P) (w0 := w0) (B0 := B0) (S0 := S0) (H0 := H0) (D := D) (Q := Q) (tm0 := tm) (bad := bad) (sm := []) (by simp) hk (fun b hb => by rw [ordered_len]; exact hbad b hb) good hT h1 (by rw [hne]; exact h5) l.length (Array.replicate l.toArray.size false) 0 tm a { w with drawn := w.drawn + 1 } B S
    ⟨by simp [ordered_len], fun i hi => absurd hi (hnone' i), fun e _ => by have := hnone' e; simp only [List.size_toArray] at this; simp [this], Nat.zero_le _, rfl, fun i d hi => absurd hi (hnone' i), fun d _ => rfl⟩ (fun b _ => hnone' b) s.drawn
    (by exact Nat.le_trans (List.length_filter_le _ _) (by simp [ordered_len]))
  exact wpAny_topo L _ _ _ _ this htopo'
theorem awp_drawnO_k {id : Nat} {l : List Oper} (effs bad : List Nat) (orders : List (List Nat × List Nat × List OpPlan)) (ne : Nat) (hm : P.follows .mixedOrders = true)
    (hok : (ancOk l (ancTab l) && decide effs.Nodup && effs.all (· < l.length) && bad.all (· < l.length) && orders.all (orderOk l bad ne) &&
      (exts (ancTab l) effs.length effs).all (fun σ => orders.any (fun x => x.1 == σ) && σ.all (effs.contains ·) && effs.all (σ.contains ·))) = true)
    (h : ∀ (Kn : List AV → List AObj → Prop) (Kp : AV → List AV → List AObj → Prop), (∀ tm H, Q .normal tm H → Kn tm H) → (∀ x tm H, Q (.pan x) tm H → Kp x tm H) →
      ∀ x ∈ orders, AWSeq P l (fun T H' Hs => Hs.getD 0 [] = H ∧ GoodP P l T (AEx.two Kn Kp) Hs x.2.2 l ∧ (bad = [] → Kn T (Hs.getD ne []))) (pick x.2.2 x.2.1) (pick l x.2.1) tm H [H]) : AWP P H0 (.region id l.toArray true) Q tm H := by
  refine awp_mono (awp_drawnO (Q := AEx.two (Q .normal) (fun x => Q (.pan x))) effs bad orders ne hm hok (h (Q .normal) (fun x => Q (.pan x)) (fun _ _ h => h) (fun _ _ _ h => h))) ?_
  intro e tm H hq
  cases e <;> first | exact hq | exact hq.elim
/-- .. and then one state for all orders. -/
theorem awp_drawnO_c {id : Nat} {l : List Oper} (effs : List Nat) (orders : List (List Nat × List Nat × List OpPlan)) (ne : Nat) (hm : P.follows .mixedOrders = true)
    (hok : (ancOk l (ancTab l) && decide effs.Nodup && effs.all (· < l.length) && ([] : List Nat).all (· < l.length) && orders.all (orderOk l [] ne) &&
      (exts (ancTab l) effs.length effs).all (fun σ => orders.any (fun x => x.1 == σ) && σ.all (effs.contains ·) && effs.all (σ.contains ·))) = true)
    (tmc : List AV) (Hc : List AObj) (hw : ∀ tm H, Wk H0 tm H tmc Hc → Q .normal tmc Hc → Q .normal tm H) (rest : Q .normal tmc Hc)
    (h : ∀ (Kp : AV → List AV → List AObj → Prop) (W : List AV → List AObj → Prop), (∀ tm H, Wk H0 tm H tmc Hc → W tm H) →
      ∀ x ∈ orders, AWSeq P l (fun T H' Hs => Hs.getD 0 [] = H ∧ GoodP P l T (AEx.two W Kp) Hs x.2.2 l ∧ W T (Hs.getD ne [])) (pick x.2.2 x.2.1) (pick l x.2.1) tm H [H]) : AWP P H0 (.region id l.toArray true) Q tm H := by
  refine awp_mono (awp_drawnO (Q := AEx.two (fun tm H => Wk H0 tm H tmc Hc) (fun _ _ _ => False)) effs [] orders ne hm hok ?_) ?_
  · intro x hx
    have := h (fun _ _ _ => False) (fun tm H => Wk H0 tm H tmc Hc) (fun _ _ h => h) x hx
    have e : (fun (T : List AV) (H' : List AObj) (Hs : List (List AObj)) => Hs.getD 0 [] = H ∧ GoodP P l T (AEx.two (fun tm H => Wk H0 tm H tmc Hc) (fun _ _ _ => False)) Hs x.2.2 l ∧ (([] : List Nat) = [] → AEx.two (fun tm H => Wk H0 tm H tmc Hc) (fun _ _ _ => False) .normal T (Hs.getD ne [])))
        = (fun T H' Hs => Hs.getD 0 [] = H ∧ GoodP P l T (AEx.two (fun tm H => Wk H0 tm H tmc Hc) (fun _ _ _ => False)) Hs x.2.2 l ∧ Wk H0 T (Hs.getD ne []) tmc Hc) := by
      funext T H' Hs
      simp [AEx.two]
    rw [e]
    exact this
  · intro e tm H hq
    cases e with
    | normal => exact hw tm H hq rest
    | pan x => exact hq.elim
    | _ => exact hq.elim
end
end Go.Proofs.YtpfjlifneibhfaaGreat.AL
namespace Go.Proofs.YtpfjlifneibhfaaGreat.AL
variable [G : GTab]
def AV.ren (ρ : Nat → Nat) : AV → AV
  | .p id off => .p (ρ id) off
  | .os id off len ext => .os (ρ id) off len ext
  | .op id i off ext => .op (ρ id) i off ext
  | .agg cs => .agg (cs.map fun c => c.ren ρ)
  | .tup cs => .tup (cs.map fun c => c.ren ρ)
  | .fn f fi ca => .fn f (fi.map fun c => c.ren ρ) (ca.map fun c => c.ren ρ)
  | .ifc t x => .ifc t (x.ren ρ)
  | .any => .any
  | .pv x => .pv x
  | .rp c => .rp c
  | .mp id => .mp (ρ id)
def AObj.ren (ρ : Nat → Nat) : AObj → AObj
  | .dead => .dead
  | .cells t cs => .cells t (cs.map fun c => c.ren ρ)
  | .arr t sz rows => .arr t sz (rows.map fun r => r.map fun c => c.ren ρ)
  | .smap es => .smap es
  | .imap es => .imap es
/-- H' is H with its objects elsewhere (or forgotten). -/
structure RenOk (ρ : Nat → Nat) (n : Nat) (H H' : List AObj) : Prop where
  fix : ∀ i, i < n → ρ i = i
  len : n ≤ H'.length
  obj : ∀ i o, H'[i]? = some o → o = .dead ∨ (H[ρ i]? = some (o.ren ρ) ∧ o.under H'.length)
  inj : ∀ i j, i < H'.length → j < H'.length → H'[i]? ≠ some .dead → H'[j]? ≠ some .dead → ρ i = ρ j → i = j
section
variable {w : World} {B : BMap} {S : Nat → Prop} {H H' : List AObj} {ρ : Nat → Nat} {n : Nat}
theorem ARel.unren (ok : RenOk ρ n H H') {a a' : AV} {v : Value} (e : a = a'.ren ρ) (hu : a'.under H'.length) (h : ARel w B S H a v) : ARel w (fun i => B (ρ i)) S H' a' v := by
  induction h generalizing a' with
  | any => cases a' <;> simp only [AV.ren] at e <;> first | exact .any | cases e
  | pv h => cases a' <;> simp only [AV.ren] at e <;> first | (cases e; exact .pv h) | cases e
  | p hb hid hk =>
    cases a' <;> simp only [AV.ren] at e <;> try (cases e; done)
    cases e
    simp only [AV.under] at hu
    refine .p hb hu (fun t sz rows hx => ?_)
    rcases ok.obj _ _ hx with h | ⟨h, _⟩
    · cases h
    · exact hk _ _ _ h
  | mp hb hid hk =>
    cases a' <;> simp only [AV.ren] at e <;> try (cases e; done)
    cases e
    simp only [AV.under] at hu
    refine .mp hb hu (fun t sz rows hx => ?_)
    rcases ok.obj _ _ hx with h | ⟨h, _⟩
    · cases h
    · exact hk _ _ _ h
  | os hid h1 hl =>
    cases a' <;> simp only [AV.ren] at e <;> try (cases e; done)
    cases e
    simp only [AV.under] at hu
    refine .os hu h1 (fun t sz rows hx => ?_)
    rcases ok.obj _ _ hx with h | ⟨h, _⟩
    · cases h
    · have := hl _ _ _ h
      simp only [List.length_map] at this
      exact this
  | op hid h1 hl =>
    cases a' <;> simp only [AV.ren] at e <;> try (cases e; done)
    cases e
    simp only [AV.under] at hu
    refine .op hu h1 (fun t sz rows hx => ?_)
    rcases ok.obj _ _ hx with h | ⟨h, _⟩
    · cases h
    · have := hl _ _ _ h
      simp only [List.length_map] at this
      exact this
  | rp h => cases a' <;> simp only [AV.ren] at e <;> first | (cases e; exact .rp h) | cases e
  | agg hl h1 h ih =>
    cases a' <;> simp only [AV.ren] at e <;> try (cases e; done)
    cases e
    rename_i cs
    simp only [AV.under] at hu
    refine .agg (by simpa using hl) h1 (fun j c v hc hv => ?_)
    exact ih j (c.ren ρ) v (by rw [List.getElem?_map, hc]; rfl) hv rfl (hu c (List.mem_of_getElem? hc))
  | tup hl h ih =>
    cases a' <;> simp only [AV.ren] at e <;> try (cases e; done)
    cases e
    rename_i cs
    simp only [AV.under] at hu
    refine .tup (by simpa using hl) (fun j c v hc hv => ?_)
    exact ih j (c.ren ρ) v (by rw [List.getElem?_map, hc]; rfl) hv rfl (hu c (List.mem_of_getElem? hc))
  | fn hf hc h k ih ik =>
    cases a' <;> simp only [AV.ren] at e <;> try (cases e; done)
    cases e
    simp only [AV.under] at hu
    refine .fn (by simpa using hf) (by simpa using hc) (fun j c v hc hv => ?_) (fun j c v hc hv => ?_)
    · exact ih j (c.ren ρ) v (by rw [List.getElem?_map, hc]; rfl) hv rfl (hu.1 c (List.mem_of_getElem? hc))
    · exact ik j (c.ren ρ) v (by rw [List.getElem?_map, hc]; rfl) hv rfl (hu.2 c (List.mem_of_getElem? hc))
  | ifc h ih =>
    cases a' <;> simp only [AV.ren] at e <;> try (cases e; done)
    cases e
    simp only [AV.under] at hu
    exact .ifc (ih rfl hu)
theorem ARelL.unren (ok : RenOk ρ n H H') {cs : List AV} {vs : List Value} (hu : ∀ c ∈ cs, c.under H'.length) (h : ARelL w B S H (cs.map fun c => c.ren ρ) vs) : ARelL w (fun i => B (ρ i)) S H' cs vs :=
  ⟨by simpa using h.1, fun j c v hc hv => (h.2 j (c.ren ρ) v (by rw [List.getElem?_map, hc]; rfl) hv).unren ok rfl (hu c (List.mem_of_getElem? hc))⟩
theorem ORel.unren (ok : RenOk ρ n H H') {id : Nat} {o : AObj} (hu : o.under H'.length) (h : ORel w B S H (ρ id) (o.ren ρ)) : ORel w (fun i => B (ρ i)) S H' id o := by
  cases o with
  | dead => trivial
  | cells t cs =>
    obtain ⟨b, c, vs, h1, h2, h3, h4⟩ := h
    exact ⟨b, c, vs, h1, h2, h3.unren ok hu, h4⟩
  | arr t sz rows =>
    obtain ⟨h0, hp, h⟩ := h
    refine ⟨fun r hr => by simpa using h0 _ (List.mem_map.2 ⟨r, hr, rfl⟩), hp, ?_⟩
    rcases h with ⟨h1, h2⟩ | ⟨b, cap, cur, h1, h2, h3, h4, h5, h6, h7⟩
    · exact .inl ⟨h1, by simpa using h2⟩
    · simp only [List.length_map] at h3 h6 h7
      refine .inr ⟨b, cap, cur, h1, h2, h3, h4, h5, h6, ARelL.unren ok (fun c hc => ?_) (by rw [List.map_flatten]; exact h7)⟩
      obtain ⟨r, hr, hcr⟩ := List.mem_flatten.1 hc
      exact hu r hr c hcr
  | smap es => exact h
  | imap es => exact h
theorem HRel.unren (ok : RenOk ρ n H H') (hr : HRel w B S H) : HRel w (fun i => B (ρ i)) S H' where
  obj := fun id o ho => by
    rcases ok.obj id o ho with rfl | ⟨h, hu⟩
    · trivial
    · exact (hr.obj _ _ h).unren ok hu
  inj := fun i j b c d hi hj hdi hdj h1 h2 => by
    have live : ∀ i, i < H'.length → H'[i]? ≠ some .dead → ρ i < H.length ∧ H[ρ i]? ≠ some .dead := by
      intro i hi hd
      rcases ok.obj i _ (List.getElem?_eq_getElem hi) with h | ⟨h, _⟩
      · rw [List.getElem?_eq_getElem hi, h] at hd; exact absurd rfl hd
      · refine ⟨(List.getElem?_eq_some_iff.1 h).1, ?_⟩
        rw [h]
        rw [List.getElem?_eq_getElem hi] at hd
        cases hx : H'[i] with
        | dead => rw [hx] at hd; exact absurd rfl hd
        | cells => simp [AObj.ren]
        | arr => simp [AObj.ren]
        | smap => simp [AObj.ren]
        | imap => simp [AObj.ren]
    obtain ⟨a1, a2⟩ := live i hi hdi
    obtain ⟨b1, b2⟩ := live j hj hdj
    exact ok.inj i j hi hj hdi hdj (hr.inj _ _ _ _ _ a1 b1 a2 b2 h1 h2)
  sep := fun i b c hi hd h => by
    rcases ok.obj i _ (List.getElem?_eq_getElem hi) with hx | ⟨hx, _⟩
    · rw [List.getElem?_eq_getElem hi, hx] at hd; exact absurd rfl hd
    · refine hr.sep (ρ i) b c (List.getElem?_eq_some_iff.1 hx).1 ?_ h
      rw [hx]
      rw [List.getElem?_eq_getElem hi] at hd
      cases hx : H'[i] with
      | dead => rw [hx] at hd; exact absurd rfl hd
      | cells => simp [AObj.ren]
      | arr => simp [AObj.ren]
      | smap => simp [AObj.ren]
      | imap => simp [AObj.ren]
  bound := hr.bound
  glob := hr.glob
theorem Step.unren {w0 : World} {B0 : BMap} {S0 : Nat → Prop} {H0 : List AObj} (ok : RenOk ρ n H H') (hn : H0.length ≤ n) (st : Step w0 B0 S0 H0 w B S H) : Step w0 B0 S0 H0 w (fun i => B (ρ i)) S H' := by
  have hfix : ∀ id, id < H0.length → ρ id = id := fun id h => ok.fix id (by omega)
  refine ⟨st.os, st.tape, st.output, st.size, st.sub, st.keep, Nat.le_trans hn ok.len, ?_, ?_⟩
  · intro id t sz rows hid
    have hlt := (List.getElem?_eq_some_iff.1 hid).1
    cases hx : H'[id]? with
    | none => exact .inl (by simp)
    | some o =>
      rcases ok.obj id o hx with rfl | ⟨h, hun⟩
      · exact .inl (by simp)
      · clear hun
        rw [hfix id hlt] at h
        rcases st.arr id t sz rows hid with hd | ⟨rows', h1, h2, h3⟩
        · refine .inl (fun t' sz' rows' e => ?_)
          simp only [Option.some.injEq] at e
          subst e
          exact hd _ _ _ h
        · rw [h1] at h
          cases o <;> simp only [AObj.ren, Option.some.injEq] at h <;> try (cases h; done)
          rename_i t' sz' rows''
          simp only [AObj.arr.injEq] at h
          obtain ⟨rfl, rfl, rfl⟩ := h
          refine .inr ⟨rows'', rfl, by simpa using h2, fun e => ?_⟩
          simp only [hfix id hlt]
          exact h3 (by simpa using e)
  · intro id hlt hna
    obtain ⟨h1, h2⟩ := st.cel id hlt hna
    refine ⟨by simp only [hfix id hlt]; exact h1, fun t sz rows e => ?_⟩
    rcases ok.obj id _ e with h | ⟨h, _⟩
    · cases h
    · rw [hfix id hlt] at h
      exact h2 _ _ _ h
def FgtR (ρ : Nat → Nat) (m : Nat) : List AV → List AV → Prop
  | [], [] => True
  | a :: asx, b :: bs => (b = .any ∨ (a = b.ren ρ ∧ b.under m)) ∧ FgtR ρ m asx bs
  | _, _ => False
theorem FgtR.rel (ok : RenOk ρ n H H') : ∀ {asx bs : List AV} {vs : List Value}, FgtR ρ H'.length asx bs → ARelL w B S H asx vs → ARelL w (fun i => B (ρ i)) S H' bs vs
  | [], [], vs, _, h => by have := h.1; cases vs <;> simp at this ⊢; exact ARelL.nil
  | [], _ :: _, _, h, _ => h.elim
  | _ :: _, [], _, h, _ => h.elim
  | a :: asx, b :: bs, [], _, h => by have := h.1; simp at this
  | a :: asx, b :: bs, v :: vs, h, k => by
    have h0 := k.2 0 a v rfl rfl
    have ht : ARelL w B S H asx vs := ⟨by simpa using k.1, fun j c u hc hu => k.2 (j + 1) c u (by simpa using hc) (by simpa using hu)⟩
    refine ARelL.cons ?_ (FgtR.rel ok h.2 ht)
    rcases h.1 with rfl | ⟨rfl, hu⟩
    · exact .any
    · exact h0.unren ok rfl hu
theorem Wk.unren {H0 : List AObj} {tm tm' : List AV} (ok : RenOk ρ n H H') (hn : H0.length ≤ n) (ht : FgtR ρ H'.length tm tm') : Wk H0 tm H tm' H' :=
  fun w0 B0 S0 D a w B S s => ⟨_, S, s.entry, s.step.unren ok hn, s.hrel.unren ok, ht.rel ok s.tmps, s.defers⟩
end
/-- Behind n objects those that follow, in another order. -/
def perm (n : Nat) (π : List Nat) (i : Nat) : Nat := if i < n then i else n + π.getD (i - n) 0
theorem perm_lt {n i : Nat} {π : List Nat} (h : i < n) : perm n π i = i := by unfold perm; rw [if_pos h]
theorem perm_0 (n : Nat) (π : List Nat) : perm n π n = n + π.getD 0 0 := by unfold perm; rw [if_neg (by omega), Nat.sub_self]
theorem perm_k (n k : Nat) (π : List Nat) : perm n π (n + k) = n + π.getD k 0 := by unfold perm; rw [if_neg (by omega), Nat.add_sub_cancel_left]
theorem ren_under {ρ : Nat → Nat} {n : Nat} (hf : ∀ i, i < n → ρ i = i) : ∀ {a : AV}, a.under n → a.ren ρ = a
  | .any, _ => by simp only [AV.ren]
  | .pv _, _ => by simp only [AV.ren]
  | .rp _, _ => by simp only [AV.ren]
  | .p id off, h => by simp only [AV.under] at h; simp only [AV.ren, hf id h]
  | .os id off len ext, h => by simp only [AV.under] at h; simp only [AV.ren, hf id h]
  | .op id i off ext, h => by simp only [AV.under] at h; simp only [AV.ren, hf id h]
  | .agg cs, h => by
    simp only [AV.under] at h
    simp only [AV.ren, AV.agg.injEq]
    conv => rhs; rw [← List.map_id cs]
    exact List.map_congr_left fun c hc => ren_under hf (h c hc)
  | .tup cs, h => by
    simp only [AV.under] at h
    simp only [AV.ren, AV.tup.injEq]
    conv => rhs; rw [← List.map_id cs]
    exact List.map_congr_left fun c hc => ren_under hf (h c hc)
  | .fn f fi ca, h => by
    simp only [AV.under] at h
    simp only [AV.ren, AV.fn.injEq, true_and]
    constructor
    · conv => rhs; rw [← List.map_id fi]
      exact List.map_congr_left fun c hc => ren_under hf (h.1 c hc)
    · conv => rhs; rw [← List.map_id ca]
      exact List.map_congr_left fun c hc => ren_under hf (h.2 c hc)
  | .ifc t x, h => by simp only [AV.under] at h; simp only [AV.ren, ren_under hf h]
  | .mp id, h => by simp only [AV.under] at h; simp only [AV.ren, hf id h]
theorem AObj.ren_under {ρ : Nat → Nat} {n : Nat} (hf : ∀ i, i < n → ρ i = i) {o : AObj} (h : o.under n) : o.ren ρ = o := by
  cases o with
  | dead => rfl
  | cells t cs =>
    simp only [AObj.ren, AObj.cells.injEq, true_and]
    conv => rhs; rw [← List.map_id cs]
    exact List.map_congr_left fun c hc => AL.ren_under hf (h c hc)
  | arr t sz rows =>
    simp only [AObj.ren, AObj.arr.injEq, true_and]
    conv => rhs; rw [← List.map_id rows]
    refine List.map_congr_left fun r hr => ?_
    simp only [id]
    conv => rhs; rw [← List.map_id r]
    exact List.map_congr_left fun c hc => AL.ren_under hf (h r hr c hc)
  | smap es => rfl
  | imap es => rfl
def PermL (ρ : Nat → Nat) (m : Nat) (L : List AObj) : List Nat → List AObj → Prop
  | [], [] => True
  | k :: ks, o :: os => (o = .dead ∨ (L[k]? = some (o.ren ρ) ∧ o.under m)) ∧ PermL ρ m L ks os
  | _, _ => False
theorem PermL.get {ρ : Nat → Nat} {m : Nat} {L : List AObj} : ∀ {ks : List Nat} {os : List AObj}, PermL ρ m L ks os → os.length = ks.length ∧ ∀ (j : Nat) (o : AObj), os[j]? = some o → o = .dead ∨ (L[ks.getD j 0]? = some (o.ren ρ) ∧ o.under m)
  | [], [], _ => ⟨rfl, fun j o h => by simp at h⟩
  | [], _ :: _, h => h.elim
  | _ :: _, [], h => h.elim
  | k :: ks, o :: os, h => by
    obtain ⟨h1, h2⟩ := h.2.get
    refine ⟨by simp [h1], fun j o' ho => ?_⟩
    cases j with
    | zero => simp only [List.getElem?_cons_zero, Option.some.injEq] at ho; subst ho; simpa using h.1
    | succ j => simp only [List.getElem?_cons_succ] at ho; simpa using h2 j o' ho
theorem getD_inj {π : List Nat} (hn : π.Nodup) {i j : Nat} (hi : i < π.length) (hj : j < π.length) (h : π.getD i 0 = π.getD j 0) : i = j := by
  simp only [List.getD_eq_getElem?_getD, List.getElem?_eq_getElem hi, List.getElem?_eq_getElem hj, Option.getD_some] at h
  exact (List.getElem_inj hn).1 h
/-- The frame's own objects in another order. A: what stands for the objects of the entry. -/
theorem Wk.perm {H0 A L L' : List AObj} {tm tm' : List AV} (π : List Nat) (hn : π.Nodup) (hA : A.length = H0.length)
    (hAu : ∀ (id : Nat) (o : AObj), A[id]? = some o → H0[id]? = some o ∨ o.under H0.length)
    (hL : PermL (AL.perm H0.length π) (H0.length + L'.length) L π L') (ht : FgtR (AL.perm H0.length π) (H0.length + L'.length) tm tm') : Wk H0 tm (A ++ L) tm' (A ++ L') := by
  intro w0 B0 S0 D a w B S s
  have hun : ∀ (id : Nat) (o : AObj), A[id]? = some o → o.under H0.length := by
    intro id o ho
    rcases hAu id o ho with h | h
    · exact s.entry.under h
    · exact h
  obtain ⟨hl, hg⟩ := hL.get
  have ok : RenOk (AL.perm H0.length π) H0.length (A ++ L) (A ++ L') := by
    refine ⟨fun i h => perm_lt h, by simp [hA], ?_, ?_⟩
    · intro i o ho
      rcases Nat.lt_or_ge i H0.length with h | h
      · rw [List.getElem?_append_left (by omega)] at ho
        have := hun i o ho
        refine .inr ⟨?_, AObj.under_mono (by simp [hA]) this⟩
        rw [perm_lt h, List.getElem?_append_left (by omega), ho, AObj.ren_under (fun i hi => perm_lt hi) this]
      · rw [List.getElem?_append_right (by omega)] at ho
        rcases hg _ _ ho with h' | ⟨h1, h2⟩
        · exact .inl h'
        · refine .inr ⟨?_, by simpa [hA] using h2⟩
          have hp : AL.perm H0.length π i = H0.length + π.getD (i - H0.length) 0 := by unfold AL.perm; rw [if_neg (by omega)]
          rw [hp, List.getElem?_append_right (by omega)]
          rw [← h1]
          congr 1
          rw [hA]; omega
    · intro i j hi hj _ _ h
      simp only [List.length_append] at hi hj
      unfold AL.perm at h
      split at h <;> split at h
      · exact h
      · omega
      · omega
      · have := getD_inj hn (i := i - H0.length) (j := j - H0.length) (by omega) (by omega) (by omega)
        omega
  exact Wk.unren (n := H0.length) ok (Nat.le_refl _) (by simpa [hA] using ht) w0 B0 S0 D a w B S s
theorem Wk.perm0 {H0 L L' : List AObj} {tm tm' : List AV} (π : List Nat) (hn : π.Nodup)
    (hL : PermL (AL.perm H0.length π) (H0.length + L'.length) L π L') (ht : FgtR (AL.perm H0.length π) (H0.length + L'.length) tm tm') : Wk H0 tm (H0 ++ L) tm' (H0 ++ L') :=
  Wk.perm π hn rfl (fun _ _ h => .inl h) hL ht
end Go.Proofs.YtpfjlifneibhfaaGreat.AL
namespace Go.Proofs.YtpfjlifneibhfaaGreat.AL
variable [G : GTab]
variable {P : Program} {H0 : List AObj} {Q : AEx → List AV → List AObj → Prop} {tm : List AV} {H : List AObj}
theorem awp_cond_t {c : Operand} {x y : Code} {b : Bool} (hc : aev tm c = .pv (.sc (.bool b))) (hb : b = true) (h : AWP P H0 x Q tm H) : AWP P H0 (.cond c x y) Q tm H :=
  awp_cond hc (fun _ => h) (fun h' => by rw [hb] at h'; cases h')
theorem awp_cond_f {c : Operand} {x y : Code} {b : Bool} (hc : aev tm c = .pv (.sc (.bool b))) (hb : b = false) (h : AWP P H0 y Q tm H) : AWP P H0 (.cond c x y) Q tm H :=
  awp_cond hc (fun h' => by rw [hb] at h'; cases h') (fun _ => h)
theorem decide_pos' {p : Prop} [Decidable p] (h : p) : decide p = true := by simpa using h
theorem decide_neg' {p : Prop} [Decidable p] (h : ¬ p) : decide p = false := by simpa using h
theorem beq_pos' {a b : Int} (h : a = b) : (a == b) = true := by simpa using h
theorem beq_neg' {a b : Int} (h : ¬ a = b) : (a == b) = false := by simpa using h
theorem bne_pos' {a b : Int} (h : ¬ a = b) : (a != b) = true := by simpa using h
theorem bne_neg' {a b : Int} (h : a = b) : (a != b) = false := by simpa using h
theorem getE {α : Type} {l : List α} {i : Nat} (h : i < l.length) : l[i]? = some (l[i]'h) := List.getElem?_eq_getElem h
end Go.Proofs.YtpfjlifneibhfaaGreat.AL
namespace Go.Proofs.YtpfjlifneibhfaaGreat.AL
section
variable {α : Type}
theorem getSkip16 {a0 a1 a2 a3 a4 a5 a6 a7 a8 a9 a10 a11 a12 a13 a14 a15 : α} {r : List α} {n : Nat} : (a0 :: a1 :: a2 :: a3 :: a4 :: a5 :: a6 :: a7 :: a8 :: a9 :: a10 :: a11 :: a12 :: a13 :: a14 :: a15 :: r)[n + 16]? = r[n]? := rfl
theorem setSkip16 {a0 a1 a2 a3 a4 a5 a6 a7 a8 a9 a10 a11 a12 a13 a14 a15 v : α} {r : List α} {n : Nat} : (a0 :: a1 :: a2 :: a3 :: a4 :: a5 :: a6 :: a7 :: a8 :: a9 :: a10 :: a11 :: a12 :: a13 :: a14 :: a15 :: r).set (n + 16) v = a0 :: a1 :: a2 :: a3 :: a4 :: a5 :: a6 :: a7 :: a8 :: a9 :: a10 :: a11 :: a12 :: a13 :: a14 :: a15 :: r.set n v := rfl
theorem getAt1 {a0 a1 : α} {r : List α} : (a0 :: a1 :: r)[1]? = some a1 := rfl
theorem setAt1 {a0 a1 v : α} {r : List α} : (a0 :: a1 :: r).set 1 v = a0 :: v :: r := rfl
theorem getAt2 {a0 a1 a2 : α} {r : List α} : (a0 :: a1 :: a2 :: r)[2]? = some a2 := rfl
theorem setAt2 {a0 a1 a2 v : α} {r : List α} : (a0 :: a1 :: a2 :: r).set 2 v = a0 :: a1 :: v :: r := rfl
theorem getAt3 {a0 a1 a2 a3 : α} {r : List α} : (a0 :: a1 :: a2 :: a3 :: r)[3]? = some a3 := rfl
theorem setAt3 {a0 a1 a2 a3 v : α} {r : List α} : (a0 :: a1 :: a2 :: a3 :: r).set 3 v = a0 :: a1 :: a2 :: v :: r := rfl
theorem getAt4 {a0 a1 a2 a3 a4 : α} {r : List α} : (a0 :: a1 :: a2 :: a3 :: a4 :: r)[4]? = some a4 := rfl
theorem setAt4 {a0 a1 a2 a3 a4 v : α} {r : List α} : (a0 :: a1 :: a2 :: a3 :: a4 :: r).set 4 v = a0 :: a1 :: a2 :: a3 :: v :: r := rfl
theorem getAt5 {a0 a1 a2 a3 a4 a5 : α} {r : List α} : (a0 :: a1 :: a2 :: a3 :: a4 :: a5 :: r)[5]? = some a5 := rfl
theorem setAt5 {a0 a1 a2 a3 a4 a5 v : α} {r : List α} : (a0 :: a1 :: a2 :: a3 :: a4 :: a5 :: r).set 5 v = a0 :: a1 :: a2 :: a3 :: a4 :: v :: r := rfl
theorem getAt6 {a0 a1 a2 a3 a4 a5 a6 : α} {r : List α} : (a0 :: a1 :: a2 :: a3 :: a4 :: a5 :: a6 :: r)[6]? = some a6 := rfl
theorem setAt6 {a0 a1 a2 a3 a4 a5 a6 v : α} {r : List α} : (a0 :: a1 :: a2 :: a3 :: a4 :: a5 :: a6 :: r).set 6 v = a0 :: a1 :: a2 :: a3 :: a4 :: a5 :: v :: r := rfl
theorem getAt7 {a0 a1 a2 a3 a4 a5 a6 a7 : α} {r : List α} : (a0 :: a1 :: a2 :: a3 :: a4 :: a5 :: a6 :: a7 :: r)[7]? = some a7 := rfl
theorem setAt7 {a0 a1 a2 a3 a4 a5 a6 a7 v : α} {r : List α} : (a0 :: a1 :: a2 :: a3 :: a4 :: a5 :: a6 :: a7 :: r).set 7 v = a0 :: a1 :: a2 :: a3 :: a4 :: a5 :: a6 :: v :: r := rfl
theorem getAt8 {a0 a1 a2 a3 a4 a5 a6 a7 a8 : α} {r : List α} : (a0 :: a1 :: a2 :: a3 :: a4 :: a5 :: a6 :: a7 :: a8 :: r)[8]? = some a8 := rfl
theorem setAt8 {a0 a1 a2 a3 a4 a5 a6 a7 a8 v : α} {r : List α} : (a0 :: a1 :: a2 :: a3 :: a4 :: a5 :: a6 :: a7 :: a8 :: r).set 8 v = a0 :: a1 :: a2 :: a3 :: a4 :: a5 :: a6 :: a7 :: v :: r := rfl
theorem getAt9 {a0 a1 a2 a3 a4 a5 a6 a7 a8 a9 : α} {r : List α} : (a0 :: a1 :: a2 :: a3 :: a4 :: a5 :: a6 :: a7 :: a8 :: a9 :: r)[9]? = some a9 := rfl
theorem setAt9 {a0 a1 a2 a3 a4 a5 a6 a7 a8 a9 v : α} {r : List α} : (a0 :: a1 :: a2 :: a3 :: a4 :: a5 :: a6 :: a7 :: a8 :: a9 :: r).set 9 v = a0 :: a1 :: a2 :: a3 :: a4 :: a5 :: a6 :: a7 :: a8 :: v :: r := rfl
theorem getAt10 {a0 a1 a2 a3 a4 a5 a6 a7 a8 a9 a10 : α} {r : List α} : (a0 :: a1 :: a2 :: a3 :: a4 :: a5 :: a6 :: a7 :: a8 :: a9 :: a10 :: r)[10]? = some a10 := rfl
theorem setAt10 {a0 a1 a2 a3 a4 a5 a6 a7 a8 a9 a10 v : α} {r : List α} : (a0 :: a1 :: a2 :: a3 :: a4 :: a5 :: a6 :: a7 :: a8 :: a9 :: a10 :: r).set 10 v = a0 :: a1 :: a2 :: a3 :: a4 :: a5 :: a6 :: a7 :: a8 :: a9 :: v :: r := rfl
theorem getAt11 {a0 a1 a2 a3 a4 a5 a6 a7 a8 a9 a10 a11 : α} {r : List α} : (a0 :: a1 :: a2 :: a3 :: a4 :: a5 :: a6 :: a7 :: a8 :: a9 :: a10 :: a11 :: r)[11]? = some a11 := rfl
theorem setAt11 {a0 a1 a2 a3 a4 a5 a6 a7 a8 a9 a10 a11 v : α} {r : List α} : (a0 :: a1 :: a2 :: a3 :: a4 :: a5 :: a6 :: a7 :: a8 :: a9 :: a10 :: a11 :: r).set 11 v = a0 :: a1 :: a2 :: a3 :: a4 :: a5 :: a6 :: a7 :: a8 :: a9 :: a10 :: v :: r := rfl
theorem getAt12 {a0 a1 a2 a3 a4 a5 a6 a7 a8 a9 a10 a11 a12 : α} {r : List α} : (a0 :: a1 :: a2 :: a3 :: a4 :: a5 :: a6 :: a7 :: a8 :: a9 :: a10 :: a11 :: a12 :: r)[12]? = some a12 := rfl
theorem setAt12 {a0 a1 a2 a3 a4 a5 a6 a7 a8 a9 a10 a11 a12 v : α} {r : List α} : (a0 :: a1 :: a2 :: a3 :: a4 :: a5 :: a6 :: a7 :: a8 :: a9 :: a10 :: a11 :: a12 :: r).set 12 v = a0 :: a1 :: a2 :: a3 :: a4 :: a5 :: a6 :: a7 :: a8 :: a9 :: a10 :: a11 :: v :: r := rfl
theorem getAt13 {a0 a1 a2 a3 a4 a5 a6 a7 a8 a9 a10 a11 a12 a13 : α} {r : List α} : (a0 :: a1 :: a2 :: a3 :: a4 :: a5 :: a6 :: a7 :: a8 :: a9 :: a10 :: a11 :: a12 :: a13 :: r)[13]? = some a13 := rfl
theorem setAt13 {a0 a1 a2 a3 a4 a5 a6 a7 a8 a9 a10 a11 a12 a13 v : α} {r : List α} : (a0 :: a1 :: a2 :: a3 :: a4 :: a5 :: a6 :: a7 :: a8 :: a9 :: a10 :: a11 :: a12 :: a13 :: r).set 13 v = a0 :: a1 :: a2 :: a3 :: a4 :: a5 :: a6 :: a7 :: a8 :: a9 :: a10 :: a11 :: a12 :: v :: r := rfl
theorem getAt14 {a0 a1 a2 a3 a4 a5 a6 a7 a8 a9 a10 a11 a12 a13 a14 : α} {r : List α} : (a0 :: a1 :: a2 :: a3 :: a4 :: a5 :: a6 :: a7 :: a8 :: a9 :: a10 :: a11 :: a12 :: a13 :: a14 :: r)[14]? = some a14 := rfl
theorem setAt14 {a0 a1 a2 a3 a4 a5 a6 a7 a8 a9 a10 a11 a12 a13 a14 v : α} {r : List α} : (a0 :: a1 :: a2 :: a3 :: a4 :: a5 :: a6 :: a7 :: a8 :: a9 :: a10 :: a11 :: a12 :: a13 :: a14 :: r).set 14 v = a0 :: a1 :: a2 :: a3 :: a4 :: a5 :: a6 :: a7 :: a8 :: a9 :: a10 :: a11 :: a12 :: a13 :: v :: r := rfl
theorem getAt15 {a0 a1 a2 a3 a4 a5 a6 a7 a8 a9 a10 a11 a12 a13 a14 a15 : α} {r : List α} : (a0 :: a1 :: a2 :: a3 :: a4 :: a5 :: a6 :: a7 :: a8 :: a9 :: a10 :: a11 :: a12 :: a13 :: a14 :: a15 :: r)[15]? = some a15 := rfl
theorem setAt15 {a0 a1 a2 a3 a4 a5 a6 a7 a8 a9 a10 a11 a12 a13 a14 a15 v : α} {r : List α} : (a0 :: a1 :: a2 :: a3 :: a4 :: a5 :: a6 :: a7 :: a8 :: a9 :: a10 :: a11 :: a12 :: a13 :: a14 :: a15 :: r).set 15 v = a0 :: a1 :: a2 :: a3 :: a4 :: a5 :: a6 :: a7 :: a8 :: a9 :: a10 :: a11 :: a12 :: a13 :: a14 :: v :: r := rfl
end
end Go.Proofs.YtpfjlifneibhfaaGreat.AL
namespace Go.Proofs.YtpfjlifneibhfaaGreat.AL
end Go.Proofs.YtpfjlifneibhfaaGreat.AL
namespace Go.Proofs.YtpfjlifneibhfaaGreat.AL
attribute [go_sem] getSkip16 setSkip16 getAt1 setAt1 getAt2 setAt2 getAt3 setAt3 getAt4 setAt4 getAt5 setAt5 getAt6 setAt6 getAt7 setAt7 getAt8 setAt8 getAt9 setAt9 getAt10 setAt10 getAt11 setAt11 getAt12 setAt12 getAt13 setAt13 getAt14 setAt14 getAt15 setAt15
end Go.Proofs.YtpfjlifneibhfaaGreat.AL
namespace Go.Proofs.YtpfjlifneibhfaaGreat.AL
variable [G : GTab]
section
variable {P : Program} {H0 : List AObj} {c : Code}
end
end Go.Proofs.YtpfjlifneibhfaaGreat.AL
namespace Go.Proofs.YtpfjlifneibhfaaGreat.AL
variable [G : GTab]
section
variable {w : World} {B : BMap} {S : Nat → Prop} {A L : List AObj}
theorem deads_get {A L : List AObj} {i : Nat} {o : AObj} (h : (A ++ L.map fun _ => AObj.dead)[i]? = some o) : (i < A.length ∧ A[i]? = some o) ∨ (A.length ≤ i ∧ o = .dead) := by
  rcases Nat.lt_or_ge i A.length with hi | hi
  · rw [List.getElem?_append_left hi] at h; exact .inl ⟨hi, h⟩
  · rw [List.getElem?_append_right hi, List.getElem?_map] at h
    cases hx : L[i - A.length]? with
    | none => rw [hx] at h; cases h
    | some x => rw [hx] at h; simp only [Option.map_some, Option.some.injEq] at h; exact .inr ⟨hi, h.symm⟩
end
end Go.Proofs.YtpfjlifneibhfaaGreat.AL
namespace Go.Proofs.YtpfjlifneibhfaaGreat.AL
variable [G : GTab]
end Go.Proofs.YtpfjlifneibhfaaGreat.AL
