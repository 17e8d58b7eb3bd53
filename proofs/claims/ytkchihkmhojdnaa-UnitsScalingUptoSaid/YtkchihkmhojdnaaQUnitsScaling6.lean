/- Part 6 of the proofs of seat Ytkchihkmhojdnaa: what the texts behind it lean on (abstract memory, walks of functions, plain laws). -/
import Derived.Test.YtkchihkmhojdnaaM5

/- Plain laws: operations. -/
set_option linter.unusedVariables false
namespace Go.Proofs.Ytkchihkmhojdnaa.AL
theorem inferS_ok {l : List Vr} {e : Ex} {u : Un} (h : inferS l e = .ok u) : ∃ us, ksL l = some us ∧ ¬ 12 < l.length ∧ inf us e = .ok u := by
  unfold inferS at h
  cases hk : ksL l with
  | none => rw [hk] at h; cases h
  | some us =>
    rw [hk] at h
    simp only at h
    split at h
    · cases h
    · split at h
      · cases h
      · exact ⟨us, rfl, by assumption, h⟩
theorem infer_two {l : List Vr} {a b : Ex} {x y : Un} (hn : nodes a + nodes b ≤ 59) (ha : inferS l a = .ok x) (hb : inferS l b = .ok y) (op : Int) (ho : 4 ≤ op ∧ op ≤ 10) :
    inferS l (.mk op 0 0 [a, b]) = comb op x y := by
  obtain ⟨us, h1, h2, h3⟩ := inferS_ok ha
  obtain ⟨us', g1, g2, g3⟩ := inferS_ok hb
  rw [h1] at g1
  simp only [Option.some.injEq] at g1
  subst g1
  unfold inferS
  rw [h1]
  simp only
  rw [if_neg h2, nodes_two, if_neg (by omega), inf_eq]
  simp only [Ex.kids, infL, h3, g3, Ex.op, Ex.n, Ex.unit, node, ho, and_self, if_true]
theorem inferS_okU {l : List Vr} {e : Ex} {u : Un} (h : inferS l e = .ok u) : u.ok := by
  obtain ⟨us, h1, _, h3⟩ := inferS_ok h
  exact inf_ok us (ksL_ok h1) e u h3
theorem max3_le (a b c : Int) : ((if (if a < b then b else a) < c then c else (if a < b then b else a)) ≤ 4) = (a ≤ 4 ∧ b ≤ 4 ∧ c ≤ 4) := by
  apply propext; split <;> split <;> omega
theorem min3_ge (a b c : Int) : (-4 ≤ (if c < (if b < a then b else a) then c else (if b < a then b else a))) = (-4 ≤ a ∧ -4 ≤ b ∧ -4 ≤ c) := by
  apply propext; split <;> split <;> omega
end Go.Proofs.Ytkchihkmhojdnaa.AL

/- Plain laws: scaling. -/
set_option linter.unusedVariables false
namespace Go.Proofs.Ytkchihkmhojdnaa.AL
def scl (n kind times : Int) : Int := if kind = 1 then n.tmod 10 * times else n.tmod 10
mutual
def valZ (l : List Vr) (st : List Int) (i0 i1 i2 i3 times : Int) : Ex → Int × Bool
  | .mk op n u kids =>
    if op = 1 then (scl (IntKind.u8.wrap (n.tmod 10)) u times, true)
    else if op = 2 then (if n < 0 then (0, false) else match st[n.toNat]?, l[n.toNat]? with
      | some x, some v => (scl x v.unit times, true)
      | _, _ => (0, false))
    else if op = 3 then (if n = 0 then (scl i0 1 times, true) else if n = 1 then (scl i1 0 times, true) else if n = 2 then (scl i2 0 times, true) else if n = 3 then (scl i3 1 times, true) else (0, false))
    else match valL l st i0 i1 i2 i3 times kids with
      | [a, b] => if op = 4 then (a.1 + b.1, a.2 && b.2) else if op = 5 then (a.1 - b.1, a.2 && b.2) else if op = 6 then (a.1 * b.1, a.2 && b.2)
        else if op = 9 then ((if b.1 < a.1 then b.1 else a.1), a.2 && b.2) else if op = 10 then ((if a.1 < b.1 then b.1 else a.1), a.2 && b.2) else (0, false)
      | _ => (0, false)
def valL (l : List Vr) (st : List Int) (i0 i1 i2 i3 times : Int) : List Ex → List (Int × Bool)
  | [] => []
  | e :: es => valZ l st i0 i1 i2 i3 times e :: valL l st i0 i1 i2 i3 times es
end
section
variable {l : List Vr} {st : List Int} {i0 i1 i2 i3 times : Int}
theorem valZ_eq (e : Ex) : valZ l st i0 i1 i2 i3 times e =
    if e.op = 1 then (scl (IntKind.u8.wrap (e.n.tmod 10)) e.unit times, true)
    else if e.op = 2 then (if e.n < 0 then (0, false) else match st[e.n.toNat]?, l[e.n.toNat]? with
      | some x, some v => (scl x v.unit times, true)
      | _, _ => (0, false))
    else if e.op = 3 then (if e.n = 0 then (scl i0 1 times, true) else if e.n = 1 then (scl i1 0 times, true) else if e.n = 2 then (scl i2 0 times, true) else if e.n = 3 then (scl i3 1 times, true) else (0, false))
    else match valL l st i0 i1 i2 i3 times e.kids with
      | [a, b] => if e.op = 4 then (a.1 + b.1, a.2 && b.2) else if e.op = 5 then (a.1 - b.1, a.2 && b.2) else if e.op = 6 then (a.1 * b.1, a.2 && b.2)
        else if e.op = 9 then ((if b.1 < a.1 then b.1 else a.1), a.2 && b.2) else if e.op = 10 then ((if a.1 < b.1 then b.1 else a.1), a.2 && b.2) else (0, false)
      | _ => (0, false) := by cases e; rw [valZ]; rfl
theorem valL_len : ∀ es : List Ex, (valL l st i0 i1 i2 i3 times es).length = es.length
  | [] => by simp [valL]
  | e :: es => by simp [valL, valL_len es]

theorem scl_bd {n kind : Int} (h0 : 0 ≤ n) (ht : 1 ≤ times ∧ times ≤ 9) : 0 ≤ scl n kind times ∧ scl n kind times ≤ 81 := by
  unfold scl
  have h1 : 0 ≤ n.tmod 10 := Int.tmod_nonneg _ h0
  have h2 : n.tmod 10 < 10 := Int.tmod_lt_of_pos _ (by omega)
  split
  · have a1 := Int.mul_nonneg h1 (by omega : 0 ≤ times)
    have a2 := Int.mul_le_mul (by omega : n.tmod 10 ≤ 9) ht.2 (by omega) (by omega)
    omega
  · omega
theorem u8_nonneg (n : Int) : 0 ≤ IntKind.u8.wrap n := by
  simp only [IntKind.wrap, IntKind.signed, IntKind.bits]
  simp
  omega

/-- Bounds: a value fits. -/
def bnd (k : Nat) : Int := 9 ^ (k + 1)
theorem bnd_pos (k : Nat) : 1 ≤ bnd k := by
  unfold bnd
  have : (0 : Int) < 9 ^ (k + 1) := Int.pow_pos (by omega)
  omega
theorem bnd_81 {k : Nat} (h : 1 ≤ k) : 81 ≤ bnd k := by
  obtain ⟨j, rfl⟩ : ∃ j, k = j + 1 := ⟨k - 1, by omega⟩
  unfold bnd
  have : (0 : Int) < 9 ^ j := Int.pow_pos (by omega)
  rw [Int.pow_succ, Int.pow_succ]; omega
theorem bnd_mul {i j k : Nat} (h : k = 1 + (i + (j + 0))) : bnd k = bnd i * bnd j := by
  subst h
  unfold bnd
  rw [← Int.pow_add]; congr 1; omega
theorem add_mul_le {a b : Int} (ha : 81 ≤ a) (hb : 81 ≤ b) : a + b ≤ a * b := by
  have := Int.mul_le_mul_of_nonneg_left (show 2 ≤ b by omega) (show 0 ≤ a by omega)
  have h2 := Int.mul_le_mul_of_nonneg_right (show 2 ≤ a by omega) (show 0 ≤ b by omega)
  omega
theorem abs_mul_le {a b x y : Int} (ha : -a ≤ x ∧ x ≤ a) (hb : -b ≤ y ∧ y ≤ b) : -(a * b) ≤ x * y ∧ x * y ≤ a * b := by
  have h1 : x.natAbs ≤ a.toNat := by omega
  have h2 : y.natAbs ≤ b.toNat := by omega
  have h3 : (x * y).natAbs ≤ a.toNat * b.toNat := by rw [Int.natAbs_mul]; exact Nat.mul_le_mul h1 h2
  have h4 : ((a.toNat * b.toNat : Nat) : Int) = a * b := by
    rw [Int.natCast_mul]; congr 1 <;> omega
  omega

def fitsZ (e : Ex) (v : Int) : Prop := -bnd (nodes e) ≤ v ∧ v ≤ bnd (nodes e)
theorem two_kids {es : List Ex} {a b : Int × Bool} (h : valL l st i0 i1 i2 i3 times es = [a, b]) : ∃ x y, es = [x, y] ∧ a = valZ l st i0 i1 i2 i3 times x ∧ b = valZ l st i0 i1 i2 i3 times y := by
  rcases es with _ | ⟨x, _ | ⟨y, _ | ⟨z, r⟩⟩⟩
  · simp [valL] at h
  · simp [valL] at h
  · simp only [valL, List.cons.injEq, and_true] at h
    exact ⟨x, y, rfl, h.1.symm, h.2.symm⟩
  · simp [valL] at h
theorem valZ_bd (hst : ∀ x ∈ st, 0 ≤ x) (h0 : 0 ≤ i0) (h1 : 0 ≤ i1) (h2 : 0 ≤ i2) (h3 : 0 ≤ i3) (ht : 1 ≤ times ∧ times ≤ 9) (e : Ex) : fitsZ e (valZ l st i0 i1 i2 i3 times e).1 := by
  induction e using Ex.ind with
  | h e ih =>
    have hn : 1 ≤ nodes e := by rw [nodes_eq]; omega
    have b81 := bnd_81 hn
    have bp := bnd_pos (nodes e)
    have leaf : ∀ n k, 0 ≤ n → fitsZ e (scl n k times) := fun n k h => by have := scl_bd (kind := k) h ht; unfold fitsZ; omega
    have zero : fitsZ e 0 := by unfold fitsZ; omega
    rw [valZ_eq]
    by_cases o1 : e.op = 1
    · rw [if_pos o1]; exact leaf _ _ (u8_nonneg _)
    rw [if_neg o1]
    by_cases o2 : e.op = 2
    · rw [if_pos o2]
      split
      · exact zero
      · split
        · rename_i x v hx hv; exact leaf _ _ (hst _ (List.mem_of_getElem? hx))
        · exact zero
    rw [if_neg o2]
    by_cases o3 : e.op = 3
    · rw [if_pos o3]
      split
      · exact leaf i0 1 h0
      · split
        · exact leaf i1 0 h1
        · split
          · exact leaf i2 0 h2
          · split
            · exact leaf i3 1 h3
            · exact zero
    rw [if_neg o3]
    split
    · rename_i a b hl
      obtain ⟨x, y, hk, rfl, rfl⟩ := two_kids hl
      have bx := ih x (by rw [hk]; simp)
      have by' := ih y (by rw [hk]; simp)
      have hm : nodes e = 1 + (nodes x + (nodes y + 0)) := by rw [nodes_eq, hk]; simp [nodesL]
      have hmul := bnd_mul hm
      have nx : 1 ≤ nodes x := by rw [nodes_eq]; omega
      have ny : 1 ≤ nodes y := by rw [nodes_eq]; omega
      have hadd := add_mul_le (bnd_81 nx) (bnd_81 ny)
      have hx1 := bnd_81 nx
      have hy1 := bnd_81 ny
      have hab := abs_mul_le bx by'
      rw [← hmul] at hab hadd
      unfold fitsZ at bx by' zero ⊢
      split
      · simp only; omega
      · split
        · simp only; omega
        · split
          · simp only; omega
          · split
            · simp only; split <;> omega
            · split
              · simp only; split <;> omega
              · simp only; omega
    · exact zero
end
/-- The law of scaling: units of packets count how often the factor is taken. -/
theorem ofK_p {k : Int} {u : Un} (h : ofK k = some u) : u.p = if k = 1 then 1 else 0 := by
  unfold ofK at h
  repeat' split at h
  all_goals first
    | cases h; done
    | (simp only [Option.some.injEq] at h; subst h; simp_all)
theorem scl_law {n kind t : Int} {u : Un} (h : ofK kind = some u) : 0 ≤ u.p ∧ scl n kind t = t ^ u.p.toNat * scl n kind 1 := by
  have hp := ofK_p h
  unfold scl
  by_cases hk : kind = 1
  · rw [if_pos hk] at hp ⊢; rw [if_pos hk, hp]
    refine ⟨by omega, ?_⟩
    show n.tmod 10 * t = t ^ 1 * (n.tmod 10 * 1)
    rw [Int.pow_one, Int.mul_one, Int.mul_comm]
  · rw [if_neg hk] at hp ⊢; rw [if_neg hk, hp]
    refine ⟨by omega, ?_⟩
    show n.tmod 10 = t ^ 0 * n.tmod 10
    rw [Int.pow_zero, Int.one_mul]
theorem min_scale {p a b : Int} (hp : 0 ≤ p) : (if p * b < p * a then p * b else p * a) = p * (if b < a then b else a) := by
  by_cases h : b < a
  · rw [if_pos h]
    split
    · rfl
    · have := Int.mul_le_mul_of_nonneg_left (Int.le_of_lt h) hp; omega
  · rw [if_neg h]
    have := Int.mul_le_mul_of_nonneg_left (Int.not_lt.1 h) hp
    rw [if_neg (by omega)]
theorem max_scale {p a b : Int} (hp : 0 ≤ p) : (if p * a < p * b then p * b else p * a) = p * (if a < b then b else a) := by
  by_cases h : a < b
  · rw [if_pos h]
    split
    · rfl
    · have := Int.mul_le_mul_of_nonneg_left (Int.le_of_lt h) hp; omega
  · rw [if_neg h]
    have := Int.mul_le_mul_of_nonneg_left (Int.not_lt.1 h) hp
    rw [if_neg (by omega)]
theorem scale_law {l : List Vr} {us : List Un} (hks : ksL l = some us) (hg : ∀ i : Nat, us[i]? = (l[i]?).bind fun v => ofK v.unit) {st : List Int} {i0 i1 i2 i3 t : Int} (ht : 0 ≤ t) (e : Ex) :
    ∀ u, inf us e = .ok u → (valZ l st i0 i1 i2 i3 1 e).2 = true → (valZ l st i0 i1 i2 i3 t e).2 = true → 0 ≤ u.p ∧ (valZ l st i0 i1 i2 i3 t e).1 = t ^ u.p.toNat * (valZ l st i0 i1 i2 i3 1 e).1 := by
  induction e using Ex.ind with
  | h e ih =>
    intro u hu v1 vt
    rw [inf_eq] at hu
    rw [valZ_eq] at v1 vt ⊢
    rw [valZ_eq]
    have leaf : e.op = 1 ∨ e.op = 2 ∨ e.op = 3 → leafS us e.op e.n e.unit = .ok u := by
      intro ho
      cases hl : infL us e.kids with
      | error x => rw [hl] at hu; cases hu
      | ok r =>
        rw [hl] at hu
        simp only [node] at hu
        split at hu
        · exact hu
        · rw [if_neg (by omega)] at hu; cases hu
        · cases hu
    by_cases o1 : e.op = 1
    · rw [if_pos o1, if_pos o1]
      have := leaf (.inl o1)
      simp only [leafS, o1, if_true] at this
      split at this
      · split at this
        · rename_i k hk
          simp only [Except.ok.injEq] at this; subst this
          exact scl_law hk
        · cases this
      · cases this
    rw [if_neg o1] at v1 vt
    rw [if_neg o1, if_neg o1]
    by_cases o2 : e.op = 2
    · rw [if_pos o2] at v1 vt
      rw [if_pos o2, if_pos o2]
      have := leaf (.inr (.inl o2))
      simp only [leafS, o2, Int.reduceEq, if_false, if_true] at this
      by_cases hn : e.n < 0
      · rw [if_pos hn] at v1; cases v1
      · rw [if_neg hn] at v1 vt
        rw [if_neg hn, if_neg hn]
        rw [if_pos (by omega)] at this
        cases hs : st[e.n.toNat]? with
        | none => rw [hs] at v1; cases v1
        | some x =>
          cases hv : l[e.n.toNat]? with
          | none => rw [hs, hv] at v1; cases v1
          | some v =>
            have h1 := hg e.n.toNat
            rw [hv] at h1
            simp only [Option.bind_some] at h1
            rw [h1] at this
            split at this
            · rename_i k hk
              simp only [Except.ok.injEq] at this; subst this
              exact scl_law hk
            · cases this
    rw [if_neg o2] at v1 vt
    rw [if_neg o2, if_neg o2]
    by_cases o3 : e.op = 3
    · rw [if_pos o3] at v1 vt
      rw [if_pos o3, if_pos o3]
      have := leaf (.inr (.inr o3))
      simp only [leafS, o3, Int.reduceEq, if_false, if_true] at this
      by_cases n0 : e.n = 0
      · rw [if_pos (.inl n0)] at this
        simp only [Except.ok.injEq] at this; subst this
        rw [if_pos n0, if_pos n0]; exact scl_law (kind := 1) (u := ⟨1, 0, 0⟩) (by decide)
      · rw [if_neg n0] at v1
        rw [if_neg n0, if_neg n0]
        by_cases n3 : e.n = 3
        · rw [if_pos (.inr n3)] at this
          simp only [Except.ok.injEq] at this; subst this
          rw [if_neg (by omega), if_neg (by omega), if_pos n3, if_neg (by omega), if_neg (by omega), if_pos n3]; exact scl_law (kind := 1) (u := ⟨1, 0, 0⟩) (by decide)
        · rw [if_neg (by omega)] at this
          by_cases n1 : e.n = 1
          · rw [if_pos n1] at this
            simp only [Except.ok.injEq] at this; subst this
            rw [if_pos n1, if_pos n1]; exact scl_law (kind := 0) (u := ⟨0, 0, 0⟩) (by decide)
          · rw [if_neg n1] at this v1
            rw [if_neg n1, if_neg n1]
            by_cases n2 : e.n = 2
            · rw [if_pos n2] at this
              simp only [Except.ok.injEq] at this; subst this
              rw [if_pos n2, if_pos n2]; exact scl_law (kind := 0) (u := ⟨0, 0, 0⟩) (by decide)
            · rw [if_neg n2] at this; cases this
    rw [if_neg o3] at v1 vt
    rw [if_neg o3, if_neg o3]
    rcases hk : e.kids with _ | ⟨x, _ | ⟨y, _ | ⟨z, r⟩⟩⟩
    · rw [hk] at v1; simp [valL] at v1
    · rw [hk] at v1; simp [valL] at v1
    · rw [hk] at v1 vt hu
      simp only [valL] at v1 vt ⊢
      simp only [infL] at hu
      have ihx := ih x (by rw [hk]; simp)
      have ihy := ih y (by rw [hk]; simp)
      cases hx : inf us x with
      | error q => rw [hx] at hu; cases hu
      | ok ux =>
        cases hy : inf us y with
        | error q => rw [hx, hy] at hu; cases hu
        | ok uy =>
          rw [hx, hy] at hu
          simp only [node] at hu
          split at hu
          · rename_i hop
            have both : ∀ (p q : Bool), (p && q) = true → p = true ∧ q = true := by intro p q h; simpa using h
            have key : (valZ l st i0 i1 i2 i3 1 x).2 = true ∧ (valZ l st i0 i1 i2 i3 1 y).2 = true ∧ (valZ l st i0 i1 i2 i3 t x).2 = true ∧ (valZ l st i0 i1 i2 i3 t y).2 = true := by
              repeat' split at v1
              all_goals first
                | (cases v1; done)
                | skip
              all_goals
                simp_all
            obtain ⟨k1, k2, k3, k4⟩ := key
            obtain ⟨px, ex⟩ := ihx ux hx k1 k3
            obtain ⟨py, ey⟩ := ihy uy hy k2 k4
            have tp : ∀ k : Nat, 0 ≤ t ^ k := fun k => Int.pow_nonneg ht
            unfold comb at hu
            by_cases o6 : e.op = 6
            · rw [if_pos o6] at hu
              split at hu
              · simp only [Except.ok.injEq] at hu; subst hu
                rw [if_neg (by omega), if_neg (by omega), if_pos o6, if_neg (by omega), if_neg (by omega), if_pos o6]
                refine ⟨by simp only [Un.add]; omega, ?_⟩
                simp only [Un.add, Int.one_mul]
                rw [ex, ey, show (ux.p + uy.p).toNat = ux.p.toNat + uy.p.toNat by omega, Int.pow_add]
                simp only [Int.mul_assoc, Int.mul_left_comm]
              · cases hu
            · rw [if_neg o6] at hu
              by_cases o78 : e.op = 7 ∨ e.op = 8
              · rw [if_neg (by omega), if_neg (by omega), if_neg (by omega), if_neg (by omega), if_neg (by omega)] at v1; cases v1
              · rw [if_neg o78] at hu
                split at hu
                · rename_i hxy
                  simp only [Except.ok.injEq] at hu; subst hu
                  subst hxy
                  rw [ex, ey]
                  have hc : e.op = 4 ∨ e.op = 5 ∨ e.op = 9 ∨ e.op = 10 := by omega
                  refine ⟨px, ?_⟩
                  rcases hc with hc | hc | hc | hc <;> simp only [hc, Int.reduceEq, if_true, if_false]
                  · rw [Int.mul_add]
                  · rw [Int.mul_sub]
                  · exact min_scale (tp _)
                  · exact max_scale (tp _)
                · cases hu
          · cases hu
    · rw [hk] at v1; simp [valL] at v1
end Go.Proofs.Ytkchihkmhojdnaa.AL
namespace Go.Proofs.Ytkchihkmhojdnaa.AL
theorem u8_rng (n : Int) : 0 ≤ IntKind.u8.wrap n ∧ IntKind.u8.wrap n ≤ 255 := by
  simp only [IntKind.wrap, IntKind.signed, IntKind.bits]
  simp
  omega
theorem bnd_le {k : Nat} (h : k ≤ 15) : bnd k ≤ 1853020188851841 := by
  unfold bnd
  have h1 : (9 : Int) ^ (k + 1) ≤ 9 ^ 16 := by
    have : 9 ^ (k + 1) ≤ 9 ^ 16 := Nat.pow_le_pow_right (by omega) (by omega)
    exact_mod_cast this
  have h2 : (9 : Int) ^ 16 = 1853020188851841 := by decide
  omega
theorem valZ_two {l : List Vr} {st : List Int} {i0 i1 i2 i3 times : Int} {e a b : Ex} {x y : Int × Bool} (hk : e.kids = [a, b]) (ha : valZ l st i0 i1 i2 i3 times a = x) (hb : valZ l st i0 i1 i2 i3 times b = y)
    (o1 : ¬ e.op = 1) (o2 : ¬ e.op = 2) (o3 : ¬ e.op = 3) : valZ l st i0 i1 i2 i3 times e =
      if e.op = 4 then (x.1 + y.1, x.2 && y.2) else if e.op = 5 then (x.1 - y.1, x.2 && y.2) else if e.op = 6 then (x.1 * y.1, x.2 && y.2)
        else if e.op = 9 then ((if y.1 < x.1 then y.1 else x.1), x.2 && y.2) else if e.op = 10 then ((if x.1 < y.1 then y.1 else x.1), x.2 && y.2) else (0, false) := by
  rw [valZ_eq, if_neg o1, if_neg o2, if_neg o3, hk]
  simp only [valL, ha, hb]
theorem valZ_other {l : List Vr} {st : List Int} {i0 i1 i2 i3 times : Int} {e : Ex} (hk : e.kids.length ≠ 2) (o1 : ¬ e.op = 1) (o2 : ¬ e.op = 2) (o3 : ¬ e.op = 3) : valZ l st i0 i1 i2 i3 times e = (0, false) := by
  rw [valZ_eq, if_neg o1, if_neg o2, if_neg o3]
  split
  · rename_i a b hl
    obtain ⟨x, y, h, _, _⟩ := two_kids hl
    rw [h] at hk; simp at hk
  · rfl
end Go.Proofs.Ytkchihkmhojdnaa.AL

set_option maxHeartbeats 16000000
set_option maxRecDepth 20000
set_option linter.unusedVariables false
set_option linter.unusedSimpArgs false
namespace Go.Proofs.Ytkchihkmhojdnaa.Y
open Go.Proofs.Ytkchihkmhojdnaa.AL Go.Proofs Go

abbrev u8 (n : Int) : PV := .sc (.int .u8 n)
theorem scl_run (n kind times : Int) (id : Nat) (H0 : List AObj) (hid : H0[id]? = some (.cells 3 [.i times])) (hng : 0 ≤ n) (ht : 1 ≤ times ∧ times ≤ 9) :
    ARun Try.prog 40 [.pv (u8 n), .i kind, .p id 0] H0 (.ret (.i (scl n kind times)) H0) := by
  have h1 : 0 ≤ n.tmod 10 := Int.tmod_nonneg _ hng
  have h2 : n.tmod 10 < 10 := Int.tmod_lt_of_pos _ (by omega)
  have hw1 : IntKind.i64.wrap (n.tmod 10) = n.tmod 10 := wrap_of (by omega) (by omega)
  have hb1 := scl_bd (kind := 1) hng ht
  unfold scl at hb1 ⊢
  simp only [if_true] at hb1
  have hw2 : IntKind.i64.wrap (n.tmod 10 * times) = n.tmod 10 * times := wrap_of (by omega) (by omega)
  by_cases hk : kind = 1
  · subst hk
    (refine ARun.intro Try.func40 rfl Try.call40 Try.ntmps40 Try.results40 ?_; simp only [List.length_cons, List.length_nil, List.length_map, Nat.reduceAdd, Nat.reduceSub, List.replicate_succ, List.replicate_zero, List.cons_append, List.nil_append])
    repeat' (first | refine awp_seq ?_ | refine awp_block ?_ | ((first | refine awp_region_k fun Kn Kp hn hp => ?_ | refine oge_intro (by assumption) ?_) <;> (simp only [go_sem, Nat.reduceAdd, Nat.reduceSub, Nat.reduceMul, Nat.reduceLeDiff, Nat.reduceLT, Nat.reduceEqDiff, Int.reduceToNat, Int.reduceAdd, Int.reduceMul, Int.reduceSub, Int.reduceLT, Int.reduceLE, Int.reduceEq, Int.reduceNeg, Int.reduceBEq, Int.reduceBNe, ↓reduceIte, reduceCtorEq, hid, hw1, hw2] <;> try simp (disch := omega) only [wrap_of])) | (refine hn _ _ ?_; clear hn hp Kn Kp) | (refine hp _ _ _ ?_; clear hn hp Kn Kp) | (refine awp_cond rfl (fun hb => ?_) (fun hb => ?_) <;> (try simp only [decide_eq_true_eq, decide_eq_false_iff_not, Bool.not_eq_true', Bool.not_eq_false', Bool.true_eq_false, Bool.false_eq_true, beq_iff_eq, bne_iff_ne, bne_eq_false_iff_eq, beq_eq_false_iff_ne, gt_iff_lt, ge_iff_le, Int.reduceEq, Int.reduceNe, Int.reduceLT, Int.reduceLE, ne_eq, not_true_eq_false, not_false_eq_true] at hb)) | ((first | refine awg_split (fun hb => ?_) (fun hb => ?_) | refine awsg_split (fun hb => ?_) (fun hb => ?_)) <;> have hb0 := hb <;> (try simp only [decide_eq_true_eq, decide_eq_false_iff_not, Bool.not_eq_true', Bool.not_eq_false', Bool.true_eq_false, Bool.false_eq_true, beq_iff_eq, bne_iff_ne, bne_eq_false_iff_eq, beq_eq_false_iff_ne, gt_iff_lt, ge_iff_le, Int.reduceEq, Int.reduceNe, Int.reduceLT, Int.reduceLE, ne_eq, not_true_eq_false, not_false_eq_true] at hb0) <;> (try simp only [beq_true, beq_false, Bool.not_eq_true', Bool.not_eq_false'] at hb) <;> (simp only [go_sem, Nat.reduceAdd, Nat.reduceSub, Nat.reduceMul, Nat.reduceLeDiff, Nat.reduceLT, Nat.reduceEqDiff, Int.reduceToNat, Int.reduceAdd, Int.reduceMul, Int.reduceSub, Int.reduceLT, Int.reduceLE, Int.reduceEq, Int.reduceNeg, Int.reduceBEq, Int.reduceBNe, ↓reduceIte, reduceCtorEq, hid, hw1, hw2, hb, hb0] <;> try simp (disch := omega) only [wrap_of])) | (refine And.intro ?_ ?_) | refine awp_skip ?_ | refine awp_ret ?_ | refine awp_exit ?_ | refine awp_label ?_ | refine awloop_step ?_ | fail)
    ((try simp only [go_sem, Nat.reduceAdd, Nat.reduceSub, Nat.reduceMul, Nat.reduceLeDiff, Nat.reduceLT, Nat.reduceEqDiff, Int.reduceToNat, Int.reduceAdd, Int.reduceMul, Int.reduceSub, Int.reduceLT, Int.reduceLE, Int.reduceEq, Int.reduceNeg, Int.reduceBEq, Int.reduceBNe, ↓reduceIte, reduceCtorEq]); (first | refine ⟨_, rfl, _, rfl, Fin.pure0 0 ?_⟩ | refine ⟨_, rfl, _, rfl, Fin.pure 1 ?_⟩); simp only [AV.low, List.map_cons, List.map_nil, aOne, aev, List.getElem?_cons_zero, List.getElem?_cons_succ, Option.getD_some, List.length_append, List.length_cons, List.length_nil, Nat.lt_irrefl, if_false]; try rfl)
  · have hk' : (kind == 1) = false := by simpa using hk
    (refine ARun.intro Try.func40 rfl Try.call40 Try.ntmps40 Try.results40 ?_; simp only [List.length_cons, List.length_nil, List.length_map, Nat.reduceAdd, Nat.reduceSub, List.replicate_succ, List.replicate_zero, List.cons_append, List.nil_append])
    repeat' (first | refine awp_seq ?_ | refine awp_block ?_ | ((first | refine awp_region_k fun Kn Kp hn hp => ?_ | refine oge_intro (by assumption) ?_) <;> (simp only [go_sem, Nat.reduceAdd, Nat.reduceSub, Nat.reduceMul, Nat.reduceLeDiff, Nat.reduceLT, Nat.reduceEqDiff, Int.reduceToNat, Int.reduceAdd, Int.reduceMul, Int.reduceSub, Int.reduceLT, Int.reduceLE, Int.reduceEq, Int.reduceNeg, Int.reduceBEq, Int.reduceBNe, ↓reduceIte, reduceCtorEq, hid, hw1, hw2, hk'] <;> try simp (disch := omega) only [wrap_of])) | (refine hn _ _ ?_; clear hn hp Kn Kp) | (refine hp _ _ _ ?_; clear hn hp Kn Kp) | (refine awp_cond rfl (fun hb => ?_) (fun hb => ?_) <;> (try simp only [decide_eq_true_eq, decide_eq_false_iff_not, Bool.not_eq_true', Bool.not_eq_false', Bool.true_eq_false, Bool.false_eq_true, beq_iff_eq, bne_iff_ne, bne_eq_false_iff_eq, beq_eq_false_iff_ne, gt_iff_lt, ge_iff_le, Int.reduceEq, Int.reduceNe, Int.reduceLT, Int.reduceLE, ne_eq, not_true_eq_false, not_false_eq_true] at hb)) | ((first | refine awg_split (fun hb => ?_) (fun hb => ?_) | refine awsg_split (fun hb => ?_) (fun hb => ?_)) <;> have hb0 := hb <;> (try simp only [decide_eq_true_eq, decide_eq_false_iff_not, Bool.not_eq_true', Bool.not_eq_false', Bool.true_eq_false, Bool.false_eq_true, beq_iff_eq, bne_iff_ne, bne_eq_false_iff_eq, beq_eq_false_iff_ne, gt_iff_lt, ge_iff_le, Int.reduceEq, Int.reduceNe, Int.reduceLT, Int.reduceLE, ne_eq, not_true_eq_false, not_false_eq_true] at hb0) <;> (try simp only [beq_true, beq_false, Bool.not_eq_true', Bool.not_eq_false'] at hb) <;> (simp only [go_sem, Nat.reduceAdd, Nat.reduceSub, Nat.reduceMul, Nat.reduceLeDiff, Nat.reduceLT, Nat.reduceEqDiff, Int.reduceToNat, Int.reduceAdd, Int.reduceMul, Int.reduceSub, Int.reduceLT, Int.reduceLE, Int.reduceEq, Int.reduceNeg, Int.reduceBEq, Int.reduceBNe, ↓reduceIte, reduceCtorEq, hid, hw1, hw2, hk', hb, hb0] <;> try simp (disch := omega) only [wrap_of])) | (refine And.intro ?_ ?_) | refine awp_skip ?_ | refine awp_ret ?_ | refine awp_exit ?_ | refine awp_label ?_ | refine awloop_step ?_ | fail)
    ((try simp only [go_sem, Nat.reduceAdd, Nat.reduceSub, Nat.reduceMul, Nat.reduceLeDiff, Nat.reduceLT, Nat.reduceEqDiff, Int.reduceToNat, Int.reduceAdd, Int.reduceMul, Int.reduceSub, Int.reduceLT, Int.reduceLE, Int.reduceEq, Int.reduceNeg, Int.reduceBEq, Int.reduceBNe, ↓reduceIte, reduceCtorEq]); (first | refine ⟨_, rfl, _, rfl, Fin.pure0 0 ?_⟩ | refine ⟨_, rfl, _, rfl, Fin.pure 1 ?_⟩); simp only [AV.low, List.map_cons, List.map_nil, aOne, aev, List.getElem?_cons_zero, List.getElem?_cons_succ, Option.getD_some, List.length_append, List.length_cons, List.length_nil, Nat.lt_irrefl, if_false]; try rfl)
    rw [if_neg hk]

theorem value_run (l : List Vr) (st : List Int) (hst : ∀ x ∈ st, 0 ≤ x) (i0 i1 i2 i3 : Int) (g0 : 0 ≤ i0) (g1 : 0 ≤ i1) (g2 : 0 ≤ i2) (g3 : 0 ≤ i3) (times : Int) (ht : 1 ≤ times ∧ times ≤ 9) (e : Ex) :
    ∀ (H0 : List AObj), nodes e ≤ 15 → ARun Try.prog 20 [.rs 5 (l.map encV), .rs 1 (st.map fun n => [u8 n]), .ag [u8 i0, u8 i1, u8 i2, u8 i3], .ag (cE e), .i times] H0
      (.ret (.tup [.i (valZ l st i0 i1 i2 i3 times e).1, .b (valZ l st i0 i1 i2 i3 times e).2]) H0) := by
  induction e using Ex.ind with
  | h e ih =>
    intro H0 hn15
    by_cases o1 : e.op = 1
    · have hv : valZ l st i0 i1 i2 i3 times e = (scl (IntKind.u8.wrap (e.n.tmod 10)) e.unit times, true) := by rw [valZ_eq, if_pos o1]
      have hu := u8_rng (e.n.tmod 10)
      rw [hv]
      (refine ARun.intro Try.func20 rfl Try.call20 Try.ntmps20 Try.results20 ?_; simp only [List.length_cons, List.length_nil, List.length_map, Nat.reduceAdd, Nat.reduceSub, List.replicate_succ, List.replicate_zero, List.cons_append, List.nil_append])
      repeat' (first | refine awp_seq ?_ | refine awp_block ?_ | ((first | refine awp_region_k fun Kn Kp hn hp => ?_ | refine awp_drawn_k (id := 8) [12] [] [.win [0], .win [0], .win [0], .win [0], .win [0], .win [0], .win [0], .win [0], .win [0], .win [0], .win [0], .win [0], .eff 0, .win [1], .win [1]] 1 rfl (by as_aux_lemma => kernel_rfl) fun Kn Kp hn hp => ?_ | refine awp_drawn_k (id := 17) [8] [] [.win [0], .win [0], .win [0], .win [0], .win [0], .win [0], .win [0], .win [0], .eff 0, .win [1], .win [1], .win [1], .win [1], .win [1]] 1 rfl (by as_aux_lemma => kernel_rfl) fun Kn Kp hn hp => ?_ | refine awp_drawn_k (id := 18) [8] [] [.win [0], .win [0], .win [0], .win [0], .win [0], .win [0], .win [0], .win [0], .eff 0, .win [1], .win [1], .win [1], .win [1], .win [1]] 1 rfl (by as_aux_lemma => kernel_rfl) fun Kn Kp hn hp => ?_ | refine oge_intro (by assumption) ?_ | refine awe_intro (scl_run _ _ _ _ _ (by rw [getOk]; rfl) hu.1 ht) ?_ | refine awsf_intro (scl_run _ _ _ _ _ (by rw [getOk]; rfl) hu.1 ht) (fun hrun => ?_) | refine oge_intro (scl_run _ _ _ _ _ (by rw [getOk]; rfl) hu.1 ht) ?_ | refine awse_intro (scl_run _ _ _ _ _ (by rw [getOk]; rfl) hu.1 ht) (fun hrun => ?_) | refine pge_intro (scl_run _ _ _ _ _ (by rw [getOk]; rfl) hu.1 ht) (fun tm' => ?_)) <;> (simp only [go_sem, Nat.reduceAdd, Nat.reduceSub, Nat.reduceMul, Nat.reduceLeDiff, Nat.reduceLT, Nat.reduceEqDiff, Int.reduceToNat, Int.reduceAdd, Int.reduceMul, Int.reduceSub, Int.reduceLT, Int.reduceLE, Int.reduceEq, Int.reduceNeg, Int.reduceBEq, Int.reduceBNe, ↓reduceIte, reduceCtorEq, o1] <;> try simp (disch := omega) only [wrap_of])) | (refine hn _ _ ?_; clear hn hp Kn Kp) | (refine hp _ _ _ ?_; clear hn hp Kn Kp) | (refine awp_cond rfl (fun hb => ?_) (fun hb => ?_) <;> (try simp only [decide_eq_true_eq, decide_eq_false_iff_not, Bool.not_eq_true', Bool.not_eq_false', Bool.true_eq_false, Bool.false_eq_true, beq_iff_eq, bne_iff_ne, bne_eq_false_iff_eq, beq_eq_false_iff_ne, gt_iff_lt, ge_iff_le, Int.reduceEq, Int.reduceNe, Int.reduceLT, Int.reduceLE, ne_eq, not_true_eq_false, not_false_eq_true] at hb)) | ((first | refine awg_split (fun hb => ?_) (fun hb => ?_) | refine awsg_split (fun hb => ?_) (fun hb => ?_)) <;> have hb0 := hb <;> (try simp only [decide_eq_true_eq, decide_eq_false_iff_not, Bool.not_eq_true', Bool.not_eq_false', Bool.true_eq_false, Bool.false_eq_true, beq_iff_eq, bne_iff_ne, bne_eq_false_iff_eq, beq_eq_false_iff_ne, gt_iff_lt, ge_iff_le, Int.reduceEq, Int.reduceNe, Int.reduceLT, Int.reduceLE, ne_eq, not_true_eq_false, not_false_eq_true] at hb0) <;> (try simp only [beq_true, beq_false, Bool.not_eq_true', Bool.not_eq_false'] at hb) <;> (simp only [go_sem, Nat.reduceAdd, Nat.reduceSub, Nat.reduceMul, Nat.reduceLeDiff, Nat.reduceLT, Nat.reduceEqDiff, Int.reduceToNat, Int.reduceAdd, Int.reduceMul, Int.reduceSub, Int.reduceLT, Int.reduceLE, Int.reduceEq, Int.reduceNeg, Int.reduceBEq, Int.reduceBNe, ↓reduceIte, reduceCtorEq, o1, hb, hb0] <;> try simp (disch := omega) only [wrap_of])) | (refine And.intro ?_ ?_) | refine awp_skip ?_ | refine awp_ret ?_ | refine awp_exit ?_ | refine awp_label ?_ | refine awloop_step ?_ | fail)
      ((try simp only [go_sem, Nat.reduceAdd, Nat.reduceSub, Nat.reduceMul, Nat.reduceLeDiff, Nat.reduceLT, Nat.reduceEqDiff, Int.reduceToNat, Int.reduceAdd, Int.reduceMul, Int.reduceSub, Int.reduceLT, Int.reduceLE, Int.reduceEq, Int.reduceNeg, Int.reduceBEq, Int.reduceBNe, ↓reduceIte, reduceCtorEq]); (first | refine ⟨_, rfl, _, rfl, Fin.pure0 0 ?_⟩ | refine ⟨_, rfl, _, rfl, Fin.pure 1 ?_⟩); simp only [AV.low, List.map_cons, List.map_nil, aOne, aev, List.getElem?_cons_zero, List.getElem?_cons_succ, Option.getD_some, List.length_append, List.length_cons, List.length_nil, Nat.lt_irrefl, if_false]; try rfl)
    · have o1' : (e.op == 1) = false := by simpa using o1
      by_cases o2 : e.op = 2
      · by_cases hng : e.n < 0
        · have hv : valZ l st i0 i1 i2 i3 times e = (0, false) := by rw [valZ_eq, if_neg o1, if_pos o2, if_pos hng]
          rw [hv]
          (refine ARun.intro Try.func20 rfl Try.call20 Try.ntmps20 Try.results20 ?_; simp only [List.length_cons, List.length_nil, List.length_map, Nat.reduceAdd, Nat.reduceSub, List.replicate_succ, List.replicate_zero, List.cons_append, List.nil_append])
          repeat' (first | refine awp_seq ?_ | refine awp_block ?_ | ((first | refine awp_region_k fun Kn Kp hn hp => ?_ | refine awp_drawn_k (id := 8) [12] [] [.win [0], .win [0], .win [0], .win [0], .win [0], .win [0], .win [0], .win [0], .win [0], .win [0], .win [0], .win [0], .eff 0, .win [1], .win [1]] 1 rfl (by as_aux_lemma => kernel_rfl) fun Kn Kp hn hp => ?_ | refine awp_drawn_k (id := 17) [8] [] [.win [0], .win [0], .win [0], .win [0], .win [0], .win [0], .win [0], .win [0], .eff 0, .win [1], .win [1], .win [1], .win [1], .win [1]] 1 rfl (by as_aux_lemma => kernel_rfl) fun Kn Kp hn hp => ?_ | refine awp_drawn_k (id := 18) [8] [] [.win [0], .win [0], .win [0], .win [0], .win [0], .win [0], .win [0], .win [0], .eff 0, .win [1], .win [1], .win [1], .win [1], .win [1]] 1 rfl (by as_aux_lemma => kernel_rfl) fun Kn Kp hn hp => ?_ | refine oge_intro (by assumption) ?_) <;> (simp only [go_sem, Nat.reduceAdd, Nat.reduceSub, Nat.reduceMul, Nat.reduceLeDiff, Nat.reduceLT, Nat.reduceEqDiff, Int.reduceToNat, Int.reduceAdd, Int.reduceMul, Int.reduceSub, Int.reduceLT, Int.reduceLE, Int.reduceEq, Int.reduceNeg, Int.reduceBEq, Int.reduceBNe, ↓reduceIte, reduceCtorEq, o2, hng] <;> try simp (disch := omega) only [wrap_of])) | (refine hn _ _ ?_; clear hn hp Kn Kp) | (refine hp _ _ _ ?_; clear hn hp Kn Kp) | (refine awp_cond rfl (fun hb => ?_) (fun hb => ?_) <;> (try simp only [decide_eq_true_eq, decide_eq_false_iff_not, Bool.not_eq_true', Bool.not_eq_false', Bool.true_eq_false, Bool.false_eq_true, beq_iff_eq, bne_iff_ne, bne_eq_false_iff_eq, beq_eq_false_iff_ne, gt_iff_lt, ge_iff_le, Int.reduceEq, Int.reduceNe, Int.reduceLT, Int.reduceLE, ne_eq, not_true_eq_false, not_false_eq_true] at hb)) | ((first | refine awg_split (fun hb => ?_) (fun hb => ?_) | refine awsg_split (fun hb => ?_) (fun hb => ?_)) <;> have hb0 := hb <;> (try simp only [decide_eq_true_eq, decide_eq_false_iff_not, Bool.not_eq_true', Bool.not_eq_false', Bool.true_eq_false, Bool.false_eq_true, beq_iff_eq, bne_iff_ne, bne_eq_false_iff_eq, beq_eq_false_iff_ne, gt_iff_lt, ge_iff_le, Int.reduceEq, Int.reduceNe, Int.reduceLT, Int.reduceLE, ne_eq, not_true_eq_false, not_false_eq_true] at hb0) <;> (try simp only [beq_true, beq_false, Bool.not_eq_true', Bool.not_eq_false'] at hb) <;> (simp only [go_sem, Nat.reduceAdd, Nat.reduceSub, Nat.reduceMul, Nat.reduceLeDiff, Nat.reduceLT, Nat.reduceEqDiff, Int.reduceToNat, Int.reduceAdd, Int.reduceMul, Int.reduceSub, Int.reduceLT, Int.reduceLE, Int.reduceEq, Int.reduceNeg, Int.reduceBEq, Int.reduceBNe, ↓reduceIte, reduceCtorEq, o2, hng, hb, hb0] <;> try simp (disch := omega) only [wrap_of])) | (refine And.intro ?_ ?_) | refine awp_skip ?_ | refine awp_ret ?_ | refine awp_exit ?_ | refine awp_label ?_ | refine awloop_step ?_ | fail)
          ((try simp only [go_sem, Nat.reduceAdd, Nat.reduceSub, Nat.reduceMul, Nat.reduceLeDiff, Nat.reduceLT, Nat.reduceEqDiff, Int.reduceToNat, Int.reduceAdd, Int.reduceMul, Int.reduceSub, Int.reduceLT, Int.reduceLE, Int.reduceEq, Int.reduceNeg, Int.reduceBEq, Int.reduceBNe, ↓reduceIte, reduceCtorEq]); (first | refine ⟨_, rfl, _, rfl, Fin.pure0 0 ?_⟩ | refine ⟨_, rfl, _, rfl, Fin.pure 1 ?_⟩); simp only [AV.low, List.map_cons, List.map_nil, aOne, aev, List.getElem?_cons_zero, List.getElem?_cons_succ, Option.getD_some, List.length_append, List.length_cons, List.length_nil, Nat.lt_irrefl, if_false]; try rfl)
        · cases hs : st[e.n.toNat]? with
          | none =>
            have hv : valZ l st i0 i1 i2 i3 times e = (0, false) := by rw [valZ_eq, if_neg o1, if_pos o2, if_neg hng, hs]
            have hlt : (st.length : Int) ≤ e.n := by rw [List.getElem?_eq_none_iff] at hs; omega
            rw [hv]
            (refine ARun.intro Try.func20 rfl Try.call20 Try.ntmps20 Try.results20 ?_; simp only [List.length_cons, List.length_nil, List.length_map, Nat.reduceAdd, Nat.reduceSub, List.replicate_succ, List.replicate_zero, List.cons_append, List.nil_append])
            repeat' (first | refine awp_seq ?_ | refine awp_block ?_ | ((first | refine awp_region_k fun Kn Kp hn hp => ?_ | refine awp_drawn_k (id := 8) [12] [] [.win [0], .win [0], .win [0], .win [0], .win [0], .win [0], .win [0], .win [0], .win [0], .win [0], .win [0], .win [0], .eff 0, .win [1], .win [1]] 1 rfl (by as_aux_lemma => kernel_rfl) fun Kn Kp hn hp => ?_ | refine awp_drawn_k (id := 17) [8] [] [.win [0], .win [0], .win [0], .win [0], .win [0], .win [0], .win [0], .win [0], .eff 0, .win [1], .win [1], .win [1], .win [1], .win [1]] 1 rfl (by as_aux_lemma => kernel_rfl) fun Kn Kp hn hp => ?_ | refine awp_drawn_k (id := 18) [8] [] [.win [0], .win [0], .win [0], .win [0], .win [0], .win [0], .win [0], .win [0], .eff 0, .win [1], .win [1], .win [1], .win [1], .win [1]] 1 rfl (by as_aux_lemma => kernel_rfl) fun Kn Kp hn hp => ?_ | refine oge_intro (by assumption) ?_) <;> (simp only [go_sem, Nat.reduceAdd, Nat.reduceSub, Nat.reduceMul, Nat.reduceLeDiff, Nat.reduceLT, Nat.reduceEqDiff, Int.reduceToNat, Int.reduceAdd, Int.reduceMul, Int.reduceSub, Int.reduceLT, Int.reduceLE, Int.reduceEq, Int.reduceNeg, Int.reduceBEq, Int.reduceBNe, ↓reduceIte, reduceCtorEq, o2, hng, hlt] <;> try simp (disch := omega) only [wrap_of])) | (refine hn _ _ ?_; clear hn hp Kn Kp) | (refine hp _ _ _ ?_; clear hn hp Kn Kp) | (refine awp_cond rfl (fun hb => ?_) (fun hb => ?_) <;> (try simp only [decide_eq_true_eq, decide_eq_false_iff_not, Bool.not_eq_true', Bool.not_eq_false', Bool.true_eq_false, Bool.false_eq_true, beq_iff_eq, bne_iff_ne, bne_eq_false_iff_eq, beq_eq_false_iff_ne, gt_iff_lt, ge_iff_le, Int.reduceEq, Int.reduceNe, Int.reduceLT, Int.reduceLE, ne_eq, not_true_eq_false, not_false_eq_true] at hb)) | ((first | refine awg_split (fun hb => ?_) (fun hb => ?_) | refine awsg_split (fun hb => ?_) (fun hb => ?_)) <;> have hb0 := hb <;> (try simp only [decide_eq_true_eq, decide_eq_false_iff_not, Bool.not_eq_true', Bool.not_eq_false', Bool.true_eq_false, Bool.false_eq_true, beq_iff_eq, bne_iff_ne, bne_eq_false_iff_eq, beq_eq_false_iff_ne, gt_iff_lt, ge_iff_le, Int.reduceEq, Int.reduceNe, Int.reduceLT, Int.reduceLE, ne_eq, not_true_eq_false, not_false_eq_true] at hb0) <;> (try simp only [beq_true, beq_false, Bool.not_eq_true', Bool.not_eq_false'] at hb) <;> (simp only [go_sem, Nat.reduceAdd, Nat.reduceSub, Nat.reduceMul, Nat.reduceLeDiff, Nat.reduceLT, Nat.reduceEqDiff, Int.reduceToNat, Int.reduceAdd, Int.reduceMul, Int.reduceSub, Int.reduceLT, Int.reduceLE, Int.reduceEq, Int.reduceNeg, Int.reduceBEq, Int.reduceBNe, ↓reduceIte, reduceCtorEq, o2, hng, hlt, hb, hb0] <;> try simp (disch := omega) only [wrap_of])) | (refine And.intro ?_ ?_) | refine awp_skip ?_ | refine awp_ret ?_ | refine awp_exit ?_ | refine awp_label ?_ | refine awloop_step ?_ | fail)
            ((try simp only [go_sem, Nat.reduceAdd, Nat.reduceSub, Nat.reduceMul, Nat.reduceLeDiff, Nat.reduceLT, Nat.reduceEqDiff, Int.reduceToNat, Int.reduceAdd, Int.reduceMul, Int.reduceSub, Int.reduceLT, Int.reduceLE, Int.reduceEq, Int.reduceNeg, Int.reduceBEq, Int.reduceBNe, ↓reduceIte, reduceCtorEq]); (first | refine ⟨_, rfl, _, rfl, Fin.pure0 0 ?_⟩ | refine ⟨_, rfl, _, rfl, Fin.pure 1 ?_⟩); simp only [AV.low, List.map_cons, List.map_nil, aOne, aev, List.getElem?_cons_zero, List.getElem?_cons_succ, Option.getD_some, List.length_append, List.length_cons, List.length_nil, Nat.lt_irrefl, if_false]; try rfl)
          | some x =>
            have hlt : ¬ (st.length : Int) ≤ e.n := by have := (List.getElem?_eq_some_iff.1 hs).1; omega
            have hlt' : e.n < (st.length : Int) := by omega
            have hng' : 0 ≤ e.n := by omega
            cases hl : l[e.n.toNat]? with
            | none =>
              have hv : valZ l st i0 i1 i2 i3 times e = (0, false) := by rw [valZ_eq, if_neg o1, if_pos o2, if_neg hng, hs, hl]
              have hlt2 : (l.length : Int) ≤ e.n := by rw [List.getElem?_eq_none_iff] at hl; omega
              rw [hv]
              (refine ARun.intro Try.func20 rfl Try.call20 Try.ntmps20 Try.results20 ?_; simp only [List.length_cons, List.length_nil, List.length_map, Nat.reduceAdd, Nat.reduceSub, List.replicate_succ, List.replicate_zero, List.cons_append, List.nil_append])
              repeat' (first | refine awp_seq ?_ | refine awp_block ?_ | ((first | refine awp_region_k fun Kn Kp hn hp => ?_ | refine awp_drawn_k (id := 8) [12] [] [.win [0], .win [0], .win [0], .win [0], .win [0], .win [0], .win [0], .win [0], .win [0], .win [0], .win [0], .win [0], .eff 0, .win [1], .win [1]] 1 rfl (by as_aux_lemma => kernel_rfl) fun Kn Kp hn hp => ?_ | refine awp_drawn_k (id := 17) [8] [] [.win [0], .win [0], .win [0], .win [0], .win [0], .win [0], .win [0], .win [0], .eff 0, .win [1], .win [1], .win [1], .win [1], .win [1]] 1 rfl (by as_aux_lemma => kernel_rfl) fun Kn Kp hn hp => ?_ | refine awp_drawn_k (id := 18) [8] [] [.win [0], .win [0], .win [0], .win [0], .win [0], .win [0], .win [0], .win [0], .eff 0, .win [1], .win [1], .win [1], .win [1], .win [1]] 1 rfl (by as_aux_lemma => kernel_rfl) fun Kn Kp hn hp => ?_ | refine oge_intro (by assumption) ?_) <;> (simp only [go_sem, Nat.reduceAdd, Nat.reduceSub, Nat.reduceMul, Nat.reduceLeDiff, Nat.reduceLT, Nat.reduceEqDiff, Int.reduceToNat, Int.reduceAdd, Int.reduceMul, Int.reduceSub, Int.reduceLT, Int.reduceLE, Int.reduceEq, Int.reduceNeg, Int.reduceBEq, Int.reduceBNe, ↓reduceIte, reduceCtorEq, o2, hng, hlt, hlt2] <;> try simp (disch := omega) only [wrap_of])) | (refine hn _ _ ?_; clear hn hp Kn Kp) | (refine hp _ _ _ ?_; clear hn hp Kn Kp) | (refine awp_cond rfl (fun hb => ?_) (fun hb => ?_) <;> (try simp only [decide_eq_true_eq, decide_eq_false_iff_not, Bool.not_eq_true', Bool.not_eq_false', Bool.true_eq_false, Bool.false_eq_true, beq_iff_eq, bne_iff_ne, bne_eq_false_iff_eq, beq_eq_false_iff_ne, gt_iff_lt, ge_iff_le, Int.reduceEq, Int.reduceNe, Int.reduceLT, Int.reduceLE, ne_eq, not_true_eq_false, not_false_eq_true] at hb)) | ((first | refine awg_split (fun hb => ?_) (fun hb => ?_) | refine awsg_split (fun hb => ?_) (fun hb => ?_)) <;> have hb0 := hb <;> (try simp only [decide_eq_true_eq, decide_eq_false_iff_not, Bool.not_eq_true', Bool.not_eq_false', Bool.true_eq_false, Bool.false_eq_true, beq_iff_eq, bne_iff_ne, bne_eq_false_iff_eq, beq_eq_false_iff_ne, gt_iff_lt, ge_iff_le, Int.reduceEq, Int.reduceNe, Int.reduceLT, Int.reduceLE, ne_eq, not_true_eq_false, not_false_eq_true] at hb0) <;> (try simp only [beq_true, beq_false, Bool.not_eq_true', Bool.not_eq_false'] at hb) <;> (simp only [go_sem, Nat.reduceAdd, Nat.reduceSub, Nat.reduceMul, Nat.reduceLeDiff, Nat.reduceLT, Nat.reduceEqDiff, Int.reduceToNat, Int.reduceAdd, Int.reduceMul, Int.reduceSub, Int.reduceLT, Int.reduceLE, Int.reduceEq, Int.reduceNeg, Int.reduceBEq, Int.reduceBNe, ↓reduceIte, reduceCtorEq, o2, hng, hlt, hlt2, hb, hb0] <;> try simp (disch := omega) only [wrap_of])) | (refine And.intro ?_ ?_) | refine awp_skip ?_ | refine awp_ret ?_ | refine awp_exit ?_ | refine awp_label ?_ | refine awloop_step ?_ | fail)
              ((try simp only [go_sem, Nat.reduceAdd, Nat.reduceSub, Nat.reduceMul, Nat.reduceLeDiff, Nat.reduceLT, Nat.reduceEqDiff, Int.reduceToNat, Int.reduceAdd, Int.reduceMul, Int.reduceSub, Int.reduceLT, Int.reduceLE, Int.reduceEq, Int.reduceNeg, Int.reduceBEq, Int.reduceBNe, ↓reduceIte, reduceCtorEq]); (first | refine ⟨_, rfl, _, rfl, Fin.pure0 0 ?_⟩ | refine ⟨_, rfl, _, rfl, Fin.pure 1 ?_⟩); simp only [AV.low, List.map_cons, List.map_nil, aOne, aev, List.getElem?_cons_zero, List.getElem?_cons_succ, Option.getD_some, List.length_append, List.length_cons, List.length_nil, Nat.lt_irrefl, if_false]; try rfl)
            | some v =>
              have hv : valZ l st i0 i1 i2 i3 times e = (scl x v.unit times, true) := by rw [valZ_eq, if_neg o1, if_pos o2, if_neg hng, hs, hl]
              have hlt2 : ¬ (l.length : Int) ≤ e.n := by have := (List.getElem?_eq_some_iff.1 hl).1; omega
              have hlt2' : e.n < (l.length : Int) := by omega
              have hx := hst x (List.mem_of_getElem? hs)
              rw [hv]
              (refine ARun.intro Try.func20 rfl Try.call20 Try.ntmps20 Try.results20 ?_; simp only [List.length_cons, List.length_nil, List.length_map, Nat.reduceAdd, Nat.reduceSub, List.replicate_succ, List.replicate_zero, List.cons_append, List.nil_append])
              repeat' (first | refine awp_seq ?_ | refine awp_block ?_ | ((first | refine awp_region_k fun Kn Kp hn hp => ?_ | refine awp_drawn_k (id := 8) [12] [] [.win [0], .win [0], .win [0], .win [0], .win [0], .win [0], .win [0], .win [0], .win [0], .win [0], .win [0], .win [0], .eff 0, .win [1], .win [1]] 1 rfl (by as_aux_lemma => kernel_rfl) fun Kn Kp hn hp => ?_ | refine awp_drawn_k (id := 17) [8] [] [.win [0], .win [0], .win [0], .win [0], .win [0], .win [0], .win [0], .win [0], .eff 0, .win [1], .win [1], .win [1], .win [1], .win [1]] 1 rfl (by as_aux_lemma => kernel_rfl) fun Kn Kp hn hp => ?_ | refine awp_drawn_k (id := 18) [8] [] [.win [0], .win [0], .win [0], .win [0], .win [0], .win [0], .win [0], .win [0], .eff 0, .win [1], .win [1], .win [1], .win [1], .win [1]] 1 rfl (by as_aux_lemma => kernel_rfl) fun Kn Kp hn hp => ?_ | refine oge_intro (by assumption) ?_ | refine awe_intro (scl_run _ _ _ _ _ (by rw [getOk]; rfl) hx ht) ?_ | refine awsf_intro (scl_run _ _ _ _ _ (by rw [getOk]; rfl) hx ht) (fun hrun => ?_) | refine oge_intro (scl_run _ _ _ _ _ (by rw [getOk]; rfl) hx ht) ?_ | refine awse_intro (scl_run _ _ _ _ _ (by rw [getOk]; rfl) hx ht) (fun hrun => ?_) | refine pge_intro (scl_run _ _ _ _ _ (by rw [getOk]; rfl) hx ht) (fun tm' => ?_)) <;> (simp only [go_sem, Nat.reduceAdd, Nat.reduceSub, Nat.reduceMul, Nat.reduceLeDiff, Nat.reduceLT, Nat.reduceEqDiff, Int.reduceToNat, Int.reduceAdd, Int.reduceMul, Int.reduceSub, Int.reduceLT, Int.reduceLE, Int.reduceEq, Int.reduceNeg, Int.reduceBEq, Int.reduceBNe, ↓reduceIte, reduceCtorEq, o2, hng, hlt, hlt2, hng', hlt', hlt2', hs, hl, encV_eq] <;> try simp (disch := omega) only [wrap_of])) | (refine hn _ _ ?_; clear hn hp Kn Kp) | (refine hp _ _ _ ?_; clear hn hp Kn Kp) | (refine awp_cond rfl (fun hb => ?_) (fun hb => ?_) <;> (try simp only [decide_eq_true_eq, decide_eq_false_iff_not, Bool.not_eq_true', Bool.not_eq_false', Bool.true_eq_false, Bool.false_eq_true, beq_iff_eq, bne_iff_ne, bne_eq_false_iff_eq, beq_eq_false_iff_ne, gt_iff_lt, ge_iff_le, Int.reduceEq, Int.reduceNe, Int.reduceLT, Int.reduceLE, ne_eq, not_true_eq_false, not_false_eq_true] at hb)) | ((first | refine awg_split (fun hb => ?_) (fun hb => ?_) | refine awsg_split (fun hb => ?_) (fun hb => ?_)) <;> have hb0 := hb <;> (try simp only [decide_eq_true_eq, decide_eq_false_iff_not, Bool.not_eq_true', Bool.not_eq_false', Bool.true_eq_false, Bool.false_eq_true, beq_iff_eq, bne_iff_ne, bne_eq_false_iff_eq, beq_eq_false_iff_ne, gt_iff_lt, ge_iff_le, Int.reduceEq, Int.reduceNe, Int.reduceLT, Int.reduceLE, ne_eq, not_true_eq_false, not_false_eq_true] at hb0) <;> (try simp only [beq_true, beq_false, Bool.not_eq_true', Bool.not_eq_false'] at hb) <;> (simp only [go_sem, Nat.reduceAdd, Nat.reduceSub, Nat.reduceMul, Nat.reduceLeDiff, Nat.reduceLT, Nat.reduceEqDiff, Int.reduceToNat, Int.reduceAdd, Int.reduceMul, Int.reduceSub, Int.reduceLT, Int.reduceLE, Int.reduceEq, Int.reduceNeg, Int.reduceBEq, Int.reduceBNe, ↓reduceIte, reduceCtorEq, o2, hng, hlt, hlt2, hng', hlt', hlt2', hs, hl, encV_eq, hb, hb0] <;> try simp (disch := omega) only [wrap_of])) | (refine And.intro ?_ ?_) | refine awp_skip ?_ | refine awp_ret ?_ | refine awp_exit ?_ | refine awp_label ?_ | refine awloop_step ?_ | fail)
              ((try simp only [go_sem, Nat.reduceAdd, Nat.reduceSub, Nat.reduceMul, Nat.reduceLeDiff, Nat.reduceLT, Nat.reduceEqDiff, Int.reduceToNat, Int.reduceAdd, Int.reduceMul, Int.reduceSub, Int.reduceLT, Int.reduceLE, Int.reduceEq, Int.reduceNeg, Int.reduceBEq, Int.reduceBNe, ↓reduceIte, reduceCtorEq]); (first | refine ⟨_, rfl, _, rfl, Fin.pure0 0 ?_⟩ | refine ⟨_, rfl, _, rfl, Fin.pure 1 ?_⟩); simp only [AV.low, List.map_cons, List.map_nil, aOne, aev, List.getElem?_cons_zero, List.getElem?_cons_succ, Option.getD_some, List.length_append, List.length_cons, List.length_nil, Nat.lt_irrefl, if_false]; try rfl)
      · have o2' : (e.op == 2) = false := by simpa using o2
        by_cases o3 : e.op = 3
        · by_cases hr : e.n = 0 ∨ e.n = 1 ∨ e.n = 2 ∨ e.n = 3
          · rcases hr with hc | hc | hc | hc
            all_goals
              have hv : ∃ r, valZ l st i0 i1 i2 i3 times e = r := ⟨_, rfl⟩
              obtain ⟨r, hv⟩ := hv
              have hv2 := hv
              rw [valZ_eq, if_neg o1, if_neg o2, if_pos o3] at hv2
              simp only [hc, Int.reduceEq, if_true, if_false] at hv2
              rw [hv, ← hv2]
              (refine ARun.intro Try.func20 rfl Try.call20 Try.ntmps20 Try.results20 ?_; simp only [List.length_cons, List.length_nil, List.length_map, Nat.reduceAdd, Nat.reduceSub, List.replicate_succ, List.replicate_zero, List.cons_append, List.nil_append])
              repeat' (first | refine awp_seq ?_ | refine awp_block ?_ | ((first | refine awp_region_k fun Kn Kp hn hp => ?_ | refine awp_drawn_k (id := 8) [12] [] [.win [0], .win [0], .win [0], .win [0], .win [0], .win [0], .win [0], .win [0], .win [0], .win [0], .win [0], .win [0], .eff 0, .win [1], .win [1]] 1 rfl (by as_aux_lemma => kernel_rfl) fun Kn Kp hn hp => ?_ | refine awp_drawn_k (id := 17) [8] [] [.win [0], .win [0], .win [0], .win [0], .win [0], .win [0], .win [0], .win [0], .eff 0, .win [1], .win [1], .win [1], .win [1], .win [1]] 1 rfl (by as_aux_lemma => kernel_rfl) fun Kn Kp hn hp => ?_ | refine awp_drawn_k (id := 18) [8] [] [.win [0], .win [0], .win [0], .win [0], .win [0], .win [0], .win [0], .win [0], .eff 0, .win [1], .win [1], .win [1], .win [1], .win [1]] 1 rfl (by as_aux_lemma => kernel_rfl) fun Kn Kp hn hp => ?_ | refine oge_intro (by assumption) ?_ | refine awe_intro (scl_run _ _ _ _ _ (by rw [getOk]; rfl) g0 ht) ?_ | refine awsf_intro (scl_run _ _ _ _ _ (by rw [getOk]; rfl) g0 ht) (fun hrun => ?_) | refine oge_intro (scl_run _ _ _ _ _ (by rw [getOk]; rfl) g0 ht) ?_ | refine awse_intro (scl_run _ _ _ _ _ (by rw [getOk]; rfl) g0 ht) (fun hrun => ?_) | refine pge_intro (scl_run _ _ _ _ _ (by rw [getOk]; rfl) g0 ht) (fun tm' => ?_) | refine awe_intro (scl_run _ _ _ _ _ (by rw [getOk]; rfl) g1 ht) ?_ | refine awsf_intro (scl_run _ _ _ _ _ (by rw [getOk]; rfl) g1 ht) (fun hrun => ?_) | refine oge_intro (scl_run _ _ _ _ _ (by rw [getOk]; rfl) g1 ht) ?_ | refine awse_intro (scl_run _ _ _ _ _ (by rw [getOk]; rfl) g1 ht) (fun hrun => ?_) | refine pge_intro (scl_run _ _ _ _ _ (by rw [getOk]; rfl) g1 ht) (fun tm' => ?_) | refine awe_intro (scl_run _ _ _ _ _ (by rw [getOk]; rfl) g2 ht) ?_ | refine awsf_intro (scl_run _ _ _ _ _ (by rw [getOk]; rfl) g2 ht) (fun hrun => ?_) | refine oge_intro (scl_run _ _ _ _ _ (by rw [getOk]; rfl) g2 ht) ?_ | refine awse_intro (scl_run _ _ _ _ _ (by rw [getOk]; rfl) g2 ht) (fun hrun => ?_) | refine pge_intro (scl_run _ _ _ _ _ (by rw [getOk]; rfl) g2 ht) (fun tm' => ?_) | refine awe_intro (scl_run _ _ _ _ _ (by rw [getOk]; rfl) g3 ht) ?_ | refine awsf_intro (scl_run _ _ _ _ _ (by rw [getOk]; rfl) g3 ht) (fun hrun => ?_) | refine oge_intro (scl_run _ _ _ _ _ (by rw [getOk]; rfl) g3 ht) ?_ | refine awse_intro (scl_run _ _ _ _ _ (by rw [getOk]; rfl) g3 ht) (fun hrun => ?_) | refine pge_intro (scl_run _ _ _ _ _ (by rw [getOk]; rfl) g3 ht) (fun tm' => ?_)) <;> (simp only [go_sem, Nat.reduceAdd, Nat.reduceSub, Nat.reduceMul, Nat.reduceLeDiff, Nat.reduceLT, Nat.reduceEqDiff, Int.reduceToNat, Int.reduceAdd, Int.reduceMul, Int.reduceSub, Int.reduceLT, Int.reduceLE, Int.reduceEq, Int.reduceNeg, Int.reduceBEq, Int.reduceBNe, ↓reduceIte, reduceCtorEq, o3, hc] <;> try simp (disch := omega) only [wrap_of])) | (refine hn _ _ ?_; clear hn hp Kn Kp) | (refine hp _ _ _ ?_; clear hn hp Kn Kp) | (refine awp_cond rfl (fun hb => ?_) (fun hb => ?_) <;> (try simp only [decide_eq_true_eq, decide_eq_false_iff_not, Bool.not_eq_true', Bool.not_eq_false', Bool.true_eq_false, Bool.false_eq_true, beq_iff_eq, bne_iff_ne, bne_eq_false_iff_eq, beq_eq_false_iff_ne, gt_iff_lt, ge_iff_le, Int.reduceEq, Int.reduceNe, Int.reduceLT, Int.reduceLE, ne_eq, not_true_eq_false, not_false_eq_true] at hb)) | ((first | refine awg_split (fun hb => ?_) (fun hb => ?_) | refine awsg_split (fun hb => ?_) (fun hb => ?_)) <;> have hb0 := hb <;> (try simp only [decide_eq_true_eq, decide_eq_false_iff_not, Bool.not_eq_true', Bool.not_eq_false', Bool.true_eq_false, Bool.false_eq_true, beq_iff_eq, bne_iff_ne, bne_eq_false_iff_eq, beq_eq_false_iff_ne, gt_iff_lt, ge_iff_le, Int.reduceEq, Int.reduceNe, Int.reduceLT, Int.reduceLE, ne_eq, not_true_eq_false, not_false_eq_true] at hb0) <;> (try simp only [beq_true, beq_false, Bool.not_eq_true', Bool.not_eq_false'] at hb) <;> (simp only [go_sem, Nat.reduceAdd, Nat.reduceSub, Nat.reduceMul, Nat.reduceLeDiff, Nat.reduceLT, Nat.reduceEqDiff, Int.reduceToNat, Int.reduceAdd, Int.reduceMul, Int.reduceSub, Int.reduceLT, Int.reduceLE, Int.reduceEq, Int.reduceNeg, Int.reduceBEq, Int.reduceBNe, ↓reduceIte, reduceCtorEq, o3, hc, hb, hb0] <;> try simp (disch := omega) only [wrap_of])) | (refine And.intro ?_ ?_) | refine awp_skip ?_ | refine awp_ret ?_ | refine awp_exit ?_ | refine awp_label ?_ | refine awloop_step ?_ | fail)
              ((try simp only [go_sem, Nat.reduceAdd, Nat.reduceSub, Nat.reduceMul, Nat.reduceLeDiff, Nat.reduceLT, Nat.reduceEqDiff, Int.reduceToNat, Int.reduceAdd, Int.reduceMul, Int.reduceSub, Int.reduceLT, Int.reduceLE, Int.reduceEq, Int.reduceNeg, Int.reduceBEq, Int.reduceBNe, ↓reduceIte, reduceCtorEq]); (first | refine ⟨_, rfl, _, rfl, Fin.pure0 0 ?_⟩ | refine ⟨_, rfl, _, rfl, Fin.pure 1 ?_⟩); simp only [AV.low, List.map_cons, List.map_nil, aOne, aev, List.getElem?_cons_zero, List.getElem?_cons_succ, Option.getD_some, List.length_append, List.length_cons, List.length_nil, Nat.lt_irrefl, if_false]; try rfl)
          · have hv : valZ l st i0 i1 i2 i3 times e = (0, false) := by
              rw [valZ_eq, if_neg o1, if_neg o2, if_pos o3, if_neg (by omega), if_neg (by omega), if_neg (by omega), if_neg (by omega)]
            rw [hv]
            (refine ARun.intro Try.func20 rfl Try.call20 Try.ntmps20 Try.results20 ?_; simp only [List.length_cons, List.length_nil, List.length_map, Nat.reduceAdd, Nat.reduceSub, List.replicate_succ, List.replicate_zero, List.cons_append, List.nil_append])
            by_cases hlo : e.n < 0
            · repeat' (first | refine awp_seq ?_ | refine awp_block ?_ | ((first | refine awp_region_k fun Kn Kp hn hp => ?_ | refine awp_drawn_k (id := 8) [12] [] [.win [0], .win [0], .win [0], .win [0], .win [0], .win [0], .win [0], .win [0], .win [0], .win [0], .win [0], .win [0], .eff 0, .win [1], .win [1]] 1 rfl (by as_aux_lemma => kernel_rfl) fun Kn Kp hn hp => ?_ | refine awp_drawn_k (id := 17) [8] [] [.win [0], .win [0], .win [0], .win [0], .win [0], .win [0], .win [0], .win [0], .eff 0, .win [1], .win [1], .win [1], .win [1], .win [1]] 1 rfl (by as_aux_lemma => kernel_rfl) fun Kn Kp hn hp => ?_ | refine awp_drawn_k (id := 18) [8] [] [.win [0], .win [0], .win [0], .win [0], .win [0], .win [0], .win [0], .win [0], .eff 0, .win [1], .win [1], .win [1], .win [1], .win [1]] 1 rfl (by as_aux_lemma => kernel_rfl) fun Kn Kp hn hp => ?_ | refine oge_intro (by assumption) ?_) <;> (simp only [go_sem, Nat.reduceAdd, Nat.reduceSub, Nat.reduceMul, Nat.reduceLeDiff, Nat.reduceLT, Nat.reduceEqDiff, Int.reduceToNat, Int.reduceAdd, Int.reduceMul, Int.reduceSub, Int.reduceLT, Int.reduceLE, Int.reduceEq, Int.reduceNeg, Int.reduceBEq, Int.reduceBNe, ↓reduceIte, reduceCtorEq, o3, hlo] <;> try simp (disch := omega) only [wrap_of])) | (refine hn _ _ ?_; clear hn hp Kn Kp) | (refine hp _ _ _ ?_; clear hn hp Kn Kp) | (refine awp_cond rfl (fun hb => ?_) (fun hb => ?_) <;> (try simp only [decide_eq_true_eq, decide_eq_false_iff_not, Bool.not_eq_true', Bool.not_eq_false', Bool.true_eq_false, Bool.false_eq_true, beq_iff_eq, bne_iff_ne, bne_eq_false_iff_eq, beq_eq_false_iff_ne, gt_iff_lt, ge_iff_le, Int.reduceEq, Int.reduceNe, Int.reduceLT, Int.reduceLE, ne_eq, not_true_eq_false, not_false_eq_true] at hb)) | ((first | refine awg_split (fun hb => ?_) (fun hb => ?_) | refine awsg_split (fun hb => ?_) (fun hb => ?_)) <;> have hb0 := hb <;> (try simp only [decide_eq_true_eq, decide_eq_false_iff_not, Bool.not_eq_true', Bool.not_eq_false', Bool.true_eq_false, Bool.false_eq_true, beq_iff_eq, bne_iff_ne, bne_eq_false_iff_eq, beq_eq_false_iff_ne, gt_iff_lt, ge_iff_le, Int.reduceEq, Int.reduceNe, Int.reduceLT, Int.reduceLE, ne_eq, not_true_eq_false, not_false_eq_true] at hb0) <;> (try simp only [beq_true, beq_false, Bool.not_eq_true', Bool.not_eq_false'] at hb) <;> (simp only [go_sem, Nat.reduceAdd, Nat.reduceSub, Nat.reduceMul, Nat.reduceLeDiff, Nat.reduceLT, Nat.reduceEqDiff, Int.reduceToNat, Int.reduceAdd, Int.reduceMul, Int.reduceSub, Int.reduceLT, Int.reduceLE, Int.reduceEq, Int.reduceNeg, Int.reduceBEq, Int.reduceBNe, ↓reduceIte, reduceCtorEq, o3, hlo, hb, hb0] <;> try simp (disch := omega) only [wrap_of])) | (refine And.intro ?_ ?_) | refine awp_skip ?_ | refine awp_ret ?_ | refine awp_exit ?_ | refine awp_label ?_ | refine awloop_step ?_ | fail)
              ((try simp only [go_sem, Nat.reduceAdd, Nat.reduceSub, Nat.reduceMul, Nat.reduceLeDiff, Nat.reduceLT, Nat.reduceEqDiff, Int.reduceToNat, Int.reduceAdd, Int.reduceMul, Int.reduceSub, Int.reduceLT, Int.reduceLE, Int.reduceEq, Int.reduceNeg, Int.reduceBEq, Int.reduceBNe, ↓reduceIte, reduceCtorEq]); (first | refine ⟨_, rfl, _, rfl, Fin.pure0 0 ?_⟩ | refine ⟨_, rfl, _, rfl, Fin.pure 1 ?_⟩); simp only [AV.low, List.map_cons, List.map_nil, aOne, aev, List.getElem?_cons_zero, List.getElem?_cons_succ, Option.getD_some, List.length_append, List.length_cons, List.length_nil, Nat.lt_irrefl, if_false]; try rfl)
            · have hhi : 4 ≤ e.n := by omega
              repeat' (first | refine awp_seq ?_ | refine awp_block ?_ | ((first | refine awp_region_k fun Kn Kp hn hp => ?_ | refine awp_drawn_k (id := 8) [12] [] [.win [0], .win [0], .win [0], .win [0], .win [0], .win [0], .win [0], .win [0], .win [0], .win [0], .win [0], .win [0], .eff 0, .win [1], .win [1]] 1 rfl (by as_aux_lemma => kernel_rfl) fun Kn Kp hn hp => ?_ | refine awp_drawn_k (id := 17) [8] [] [.win [0], .win [0], .win [0], .win [0], .win [0], .win [0], .win [0], .win [0], .eff 0, .win [1], .win [1], .win [1], .win [1], .win [1]] 1 rfl (by as_aux_lemma => kernel_rfl) fun Kn Kp hn hp => ?_ | refine awp_drawn_k (id := 18) [8] [] [.win [0], .win [0], .win [0], .win [0], .win [0], .win [0], .win [0], .win [0], .eff 0, .win [1], .win [1], .win [1], .win [1], .win [1]] 1 rfl (by as_aux_lemma => kernel_rfl) fun Kn Kp hn hp => ?_ | refine oge_intro (by assumption) ?_) <;> (simp only [go_sem, Nat.reduceAdd, Nat.reduceSub, Nat.reduceMul, Nat.reduceLeDiff, Nat.reduceLT, Nat.reduceEqDiff, Int.reduceToNat, Int.reduceAdd, Int.reduceMul, Int.reduceSub, Int.reduceLT, Int.reduceLE, Int.reduceEq, Int.reduceNeg, Int.reduceBEq, Int.reduceBNe, ↓reduceIte, reduceCtorEq, o3, hlo, hhi] <;> try simp (disch := omega) only [wrap_of])) | (refine hn _ _ ?_; clear hn hp Kn Kp) | (refine hp _ _ _ ?_; clear hn hp Kn Kp) | (refine awp_cond rfl (fun hb => ?_) (fun hb => ?_) <;> (try simp only [decide_eq_true_eq, decide_eq_false_iff_not, Bool.not_eq_true', Bool.not_eq_false', Bool.true_eq_false, Bool.false_eq_true, beq_iff_eq, bne_iff_ne, bne_eq_false_iff_eq, beq_eq_false_iff_ne, gt_iff_lt, ge_iff_le, Int.reduceEq, Int.reduceNe, Int.reduceLT, Int.reduceLE, ne_eq, not_true_eq_false, not_false_eq_true] at hb)) | ((first | refine awg_split (fun hb => ?_) (fun hb => ?_) | refine awsg_split (fun hb => ?_) (fun hb => ?_)) <;> have hb0 := hb <;> (try simp only [decide_eq_true_eq, decide_eq_false_iff_not, Bool.not_eq_true', Bool.not_eq_false', Bool.true_eq_false, Bool.false_eq_true, beq_iff_eq, bne_iff_ne, bne_eq_false_iff_eq, beq_eq_false_iff_ne, gt_iff_lt, ge_iff_le, Int.reduceEq, Int.reduceNe, Int.reduceLT, Int.reduceLE, ne_eq, not_true_eq_false, not_false_eq_true] at hb0) <;> (try simp only [beq_true, beq_false, Bool.not_eq_true', Bool.not_eq_false'] at hb) <;> (simp only [go_sem, Nat.reduceAdd, Nat.reduceSub, Nat.reduceMul, Nat.reduceLeDiff, Nat.reduceLT, Nat.reduceEqDiff, Int.reduceToNat, Int.reduceAdd, Int.reduceMul, Int.reduceSub, Int.reduceLT, Int.reduceLE, Int.reduceEq, Int.reduceNeg, Int.reduceBEq, Int.reduceBNe, ↓reduceIte, reduceCtorEq, o3, hlo, hhi, hb, hb0] <;> try simp (disch := omega) only [wrap_of])) | (refine And.intro ?_ ?_) | refine awp_skip ?_ | refine awp_ret ?_ | refine awp_exit ?_ | refine awp_label ?_ | refine awloop_step ?_ | fail)
              ((try simp only [go_sem, Nat.reduceAdd, Nat.reduceSub, Nat.reduceMul, Nat.reduceLeDiff, Nat.reduceLT, Nat.reduceEqDiff, Int.reduceToNat, Int.reduceAdd, Int.reduceMul, Int.reduceSub, Int.reduceLT, Int.reduceLE, Int.reduceEq, Int.reduceNeg, Int.reduceBEq, Int.reduceBNe, ↓reduceIte, reduceCtorEq]); (first | refine ⟨_, rfl, _, rfl, Fin.pure0 0 ?_⟩ | refine ⟨_, rfl, _, rfl, Fin.pure 1 ?_⟩); simp only [AV.low, List.map_cons, List.map_nil, aOne, aev, List.getElem?_cons_zero, List.getElem?_cons_succ, Option.getD_some, List.length_append, List.length_cons, List.length_nil, Nat.lt_irrefl, if_false]; try rfl)
        · have o3' : (e.op == 3) = false := by simpa using o3
          by_cases hk2 : e.kids.length = 2
          · obtain ⟨a, b, hk⟩ : ∃ a b, e.kids = [a, b] := by
              match e.kids, hk2 with | [a, b], _ => exact ⟨a, b, rfl⟩
            have hm : nodes e = 1 + (nodes a + (nodes b + 0)) := by rw [nodes_eq, hk]; simp [nodesL]
            have ba := valZ_bd (l := l) hst g0 g1 g2 g3 ht a
            have bb := valZ_bd (l := l) hst g0 g1 g2 g3 ht b
            have hmul := bnd_mul hm
            have hbe := bnd_le hn15
            have ca := fun H0 => ih a (by rw [hk]; simp) H0 (by omega)
            have cb := fun H0 => ih b (by rw [hk]; simp) H0 (by omega)
            rcases ha : valZ l st i0 i1 i2 i3 times a with ⟨A, p⟩
            rcases hb' : valZ l st i0 i1 i2 i3 times b with ⟨B, q⟩
            have hv := valZ_two hk ha hb' o1 o2 o3
            rw [ha] at ba ca
            rw [hb'] at bb cb
            unfold fitsZ at ba bb
            simp only at ba bb ca cb hv
            have hab := abs_mul_le ba bb
            rw [← hmul] at hab
            have hA := bnd_le (k := nodes a) (by omega)
            have hB := bnd_le (k := nodes b) (by omega)
            have w4 : IntKind.i64.wrap (A + B) = A + B := wrap_of (by omega) (by omega)
            have w5 : IntKind.i64.wrap (A - B) = A - B := wrap_of (by omega) (by omega)
            have w6 : IntKind.i64.wrap (A * B) = A * B := wrap_of (by omega) (by omega)
            clear ba bb hab
            rw [hv]
            by_cases o4 : e.op = 4
            · simp only [o4, if_true]
              (refine ARun.intro Try.func20 rfl Try.call20 Try.ntmps20 Try.results20 ?_; simp only [List.length_cons, List.length_nil, List.length_map, Nat.reduceAdd, Nat.reduceSub, List.replicate_succ, List.replicate_zero, List.cons_append, List.nil_append])
              repeat' (first | refine awp_seq ?_ | refine awp_block ?_ | ((first | refine awp_region_k fun Kn Kp hn hp => ?_ | refine awp_drawn_k (id := 8) [12] [] [.win [0], .win [0], .win [0], .win [0], .win [0], .win [0], .win [0], .win [0], .win [0], .win [0], .win [0], .win [0], .eff 0, .win [1], .win [1]] 1 rfl (by as_aux_lemma => kernel_rfl) fun Kn Kp hn hp => ?_ | refine awp_drawn_k (id := 17) [8] [] [.win [0], .win [0], .win [0], .win [0], .win [0], .win [0], .win [0], .win [0], .eff 0, .win [1], .win [1], .win [1], .win [1], .win [1]] 1 rfl (by as_aux_lemma => kernel_rfl) fun Kn Kp hn hp => ?_ | refine awp_drawn_k (id := 18) [8] [] [.win [0], .win [0], .win [0], .win [0], .win [0], .win [0], .win [0], .win [0], .eff 0, .win [1], .win [1], .win [1], .win [1], .win [1]] 1 rfl (by as_aux_lemma => kernel_rfl) fun Kn Kp hn hp => ?_ | refine oge_intro (by assumption) ?_ | refine awe_intro (ca _) ?_ | refine awsf_intro (ca _) (fun hrun => ?_) | refine oge_intro (ca _) ?_ | refine awse_intro (ca _) (fun hrun => ?_) | refine pge_intro (ca _) (fun tm' => ?_) | refine awe_intro (cb _) ?_ | refine awsf_intro (cb _) (fun hrun => ?_) | refine oge_intro (cb _) ?_ | refine awse_intro (cb _) (fun hrun => ?_) | refine pge_intro (cb _) (fun tm' => ?_)) <;> (simp only [go_sem, Nat.reduceAdd, Nat.reduceSub, Nat.reduceMul, Nat.reduceLeDiff, Nat.reduceLT, Nat.reduceEqDiff, Int.reduceToNat, Int.reduceAdd, Int.reduceMul, Int.reduceSub, Int.reduceLT, Int.reduceLE, Int.reduceEq, Int.reduceNeg, Int.reduceBEq, Int.reduceBNe, ↓reduceIte, reduceCtorEq, o4, hk, encE_eq, w4] <;> try simp (disch := omega) only [wrap_of])) | (refine hn _ _ ?_; clear hn hp Kn Kp) | (refine hp _ _ _ ?_; clear hn hp Kn Kp) | (refine awp_cond rfl (fun hb => ?_) (fun hb => ?_) <;> (try simp only [decide_eq_true_eq, decide_eq_false_iff_not, Bool.not_eq_true', Bool.not_eq_false', Bool.true_eq_false, Bool.false_eq_true, beq_iff_eq, bne_iff_ne, bne_eq_false_iff_eq, beq_eq_false_iff_ne, gt_iff_lt, ge_iff_le, Int.reduceEq, Int.reduceNe, Int.reduceLT, Int.reduceLE, ne_eq, not_true_eq_false, not_false_eq_true] at hb)) | ((first | refine awg_split (fun hb => ?_) (fun hb => ?_) | refine awsg_split (fun hb => ?_) (fun hb => ?_)) <;> have hb0 := hb <;> (try simp only [decide_eq_true_eq, decide_eq_false_iff_not, Bool.not_eq_true', Bool.not_eq_false', Bool.true_eq_false, Bool.false_eq_true, beq_iff_eq, bne_iff_ne, bne_eq_false_iff_eq, beq_eq_false_iff_ne, gt_iff_lt, ge_iff_le, Int.reduceEq, Int.reduceNe, Int.reduceLT, Int.reduceLE, ne_eq, not_true_eq_false, not_false_eq_true] at hb0) <;> (try simp only [beq_true, beq_false, Bool.not_eq_true', Bool.not_eq_false'] at hb) <;> (simp only [go_sem, Nat.reduceAdd, Nat.reduceSub, Nat.reduceMul, Nat.reduceLeDiff, Nat.reduceLT, Nat.reduceEqDiff, Int.reduceToNat, Int.reduceAdd, Int.reduceMul, Int.reduceSub, Int.reduceLT, Int.reduceLE, Int.reduceEq, Int.reduceNeg, Int.reduceBEq, Int.reduceBNe, ↓reduceIte, reduceCtorEq, o4, hk, encE_eq, w4, hb, hb0] <;> try simp (disch := omega) only [wrap_of])) | (refine And.intro ?_ ?_) | refine awp_skip ?_ | refine awp_ret ?_ | refine awp_exit ?_ | refine awp_label ?_ | refine awloop_step ?_ | fail)
              all_goals
                ((try simp only [go_sem, Nat.reduceAdd, Nat.reduceSub, Nat.reduceMul, Nat.reduceLeDiff, Nat.reduceLT, Nat.reduceEqDiff, Int.reduceToNat, Int.reduceAdd, Int.reduceMul, Int.reduceSub, Int.reduceLT, Int.reduceLE, Int.reduceEq, Int.reduceNeg, Int.reduceBEq, Int.reduceBNe, ↓reduceIte, reduceCtorEq]); (first | refine ⟨_, rfl, _, rfl, Fin.pure0 0 ?_⟩ | refine ⟨_, rfl, _, rfl, Fin.pure 1 ?_⟩); simp only [AV.low, List.map_cons, List.map_nil, aOne, aev, List.getElem?_cons_zero, List.getElem?_cons_succ, Option.getD_some, List.length_append, List.length_cons, List.length_nil, Nat.lt_irrefl, if_false]; try rfl)
                simp [*]
            · have o4' : (e.op == 4) = false := by simpa using o4
              by_cases o5 : e.op = 5
              · simp only [o5, Int.reduceEq, if_true, if_false]
                (refine ARun.intro Try.func20 rfl Try.call20 Try.ntmps20 Try.results20 ?_; simp only [List.length_cons, List.length_nil, List.length_map, Nat.reduceAdd, Nat.reduceSub, List.replicate_succ, List.replicate_zero, List.cons_append, List.nil_append])
                repeat' (first | refine awp_seq ?_ | refine awp_block ?_ | ((first | refine awp_region_k fun Kn Kp hn hp => ?_ | refine awp_drawn_k (id := 8) [12] [] [.win [0], .win [0], .win [0], .win [0], .win [0], .win [0], .win [0], .win [0], .win [0], .win [0], .win [0], .win [0], .eff 0, .win [1], .win [1]] 1 rfl (by as_aux_lemma => kernel_rfl) fun Kn Kp hn hp => ?_ | refine awp_drawn_k (id := 17) [8] [] [.win [0], .win [0], .win [0], .win [0], .win [0], .win [0], .win [0], .win [0], .eff 0, .win [1], .win [1], .win [1], .win [1], .win [1]] 1 rfl (by as_aux_lemma => kernel_rfl) fun Kn Kp hn hp => ?_ | refine awp_drawn_k (id := 18) [8] [] [.win [0], .win [0], .win [0], .win [0], .win [0], .win [0], .win [0], .win [0], .eff 0, .win [1], .win [1], .win [1], .win [1], .win [1]] 1 rfl (by as_aux_lemma => kernel_rfl) fun Kn Kp hn hp => ?_ | refine oge_intro (by assumption) ?_ | refine awe_intro (ca _) ?_ | refine awsf_intro (ca _) (fun hrun => ?_) | refine oge_intro (ca _) ?_ | refine awse_intro (ca _) (fun hrun => ?_) | refine pge_intro (ca _) (fun tm' => ?_) | refine awe_intro (cb _) ?_ | refine awsf_intro (cb _) (fun hrun => ?_) | refine oge_intro (cb _) ?_ | refine awse_intro (cb _) (fun hrun => ?_) | refine pge_intro (cb _) (fun tm' => ?_)) <;> (simp only [go_sem, Nat.reduceAdd, Nat.reduceSub, Nat.reduceMul, Nat.reduceLeDiff, Nat.reduceLT, Nat.reduceEqDiff, Int.reduceToNat, Int.reduceAdd, Int.reduceMul, Int.reduceSub, Int.reduceLT, Int.reduceLE, Int.reduceEq, Int.reduceNeg, Int.reduceBEq, Int.reduceBNe, ↓reduceIte, reduceCtorEq, o5, hk, encE_eq, w5] <;> try simp (disch := omega) only [wrap_of])) | (refine hn _ _ ?_; clear hn hp Kn Kp) | (refine hp _ _ _ ?_; clear hn hp Kn Kp) | (refine awp_cond rfl (fun hb => ?_) (fun hb => ?_) <;> (try simp only [decide_eq_true_eq, decide_eq_false_iff_not, Bool.not_eq_true', Bool.not_eq_false', Bool.true_eq_false, Bool.false_eq_true, beq_iff_eq, bne_iff_ne, bne_eq_false_iff_eq, beq_eq_false_iff_ne, gt_iff_lt, ge_iff_le, Int.reduceEq, Int.reduceNe, Int.reduceLT, Int.reduceLE, ne_eq, not_true_eq_false, not_false_eq_true] at hb)) | ((first | refine awg_split (fun hb => ?_) (fun hb => ?_) | refine awsg_split (fun hb => ?_) (fun hb => ?_)) <;> have hb0 := hb <;> (try simp only [decide_eq_true_eq, decide_eq_false_iff_not, Bool.not_eq_true', Bool.not_eq_false', Bool.true_eq_false, Bool.false_eq_true, beq_iff_eq, bne_iff_ne, bne_eq_false_iff_eq, beq_eq_false_iff_ne, gt_iff_lt, ge_iff_le, Int.reduceEq, Int.reduceNe, Int.reduceLT, Int.reduceLE, ne_eq, not_true_eq_false, not_false_eq_true] at hb0) <;> (try simp only [beq_true, beq_false, Bool.not_eq_true', Bool.not_eq_false'] at hb) <;> (simp only [go_sem, Nat.reduceAdd, Nat.reduceSub, Nat.reduceMul, Nat.reduceLeDiff, Nat.reduceLT, Nat.reduceEqDiff, Int.reduceToNat, Int.reduceAdd, Int.reduceMul, Int.reduceSub, Int.reduceLT, Int.reduceLE, Int.reduceEq, Int.reduceNeg, Int.reduceBEq, Int.reduceBNe, ↓reduceIte, reduceCtorEq, o5, hk, encE_eq, w5, hb, hb0] <;> try simp (disch := omega) only [wrap_of])) | (refine And.intro ?_ ?_) | refine awp_skip ?_ | refine awp_ret ?_ | refine awp_exit ?_ | refine awp_label ?_ | refine awloop_step ?_ | fail)
                all_goals
                  ((try simp only [go_sem, Nat.reduceAdd, Nat.reduceSub, Nat.reduceMul, Nat.reduceLeDiff, Nat.reduceLT, Nat.reduceEqDiff, Int.reduceToNat, Int.reduceAdd, Int.reduceMul, Int.reduceSub, Int.reduceLT, Int.reduceLE, Int.reduceEq, Int.reduceNeg, Int.reduceBEq, Int.reduceBNe, ↓reduceIte, reduceCtorEq]); (first | refine ⟨_, rfl, _, rfl, Fin.pure0 0 ?_⟩ | refine ⟨_, rfl, _, rfl, Fin.pure 1 ?_⟩); simp only [AV.low, List.map_cons, List.map_nil, aOne, aev, List.getElem?_cons_zero, List.getElem?_cons_succ, Option.getD_some, List.length_append, List.length_cons, List.length_nil, Nat.lt_irrefl, if_false]; try rfl)
                  simp [*]
              · have o5' : (e.op == 5) = false := by simpa using o5
                by_cases o6 : e.op = 6
                · simp only [o6, Int.reduceEq, if_true, if_false]
                  (refine ARun.intro Try.func20 rfl Try.call20 Try.ntmps20 Try.results20 ?_; simp only [List.length_cons, List.length_nil, List.length_map, Nat.reduceAdd, Nat.reduceSub, List.replicate_succ, List.replicate_zero, List.cons_append, List.nil_append])
                  repeat' (first | refine awp_seq ?_ | refine awp_block ?_ | ((first | refine awp_region_k fun Kn Kp hn hp => ?_ | refine awp_drawn_k (id := 8) [12] [] [.win [0], .win [0], .win [0], .win [0], .win [0], .win [0], .win [0], .win [0], .win [0], .win [0], .win [0], .win [0], .eff 0, .win [1], .win [1]] 1 rfl (by as_aux_lemma => kernel_rfl) fun Kn Kp hn hp => ?_ | refine awp_drawn_k (id := 17) [8] [] [.win [0], .win [0], .win [0], .win [0], .win [0], .win [0], .win [0], .win [0], .eff 0, .win [1], .win [1], .win [1], .win [1], .win [1]] 1 rfl (by as_aux_lemma => kernel_rfl) fun Kn Kp hn hp => ?_ | refine awp_drawn_k (id := 18) [8] [] [.win [0], .win [0], .win [0], .win [0], .win [0], .win [0], .win [0], .win [0], .eff 0, .win [1], .win [1], .win [1], .win [1], .win [1]] 1 rfl (by as_aux_lemma => kernel_rfl) fun Kn Kp hn hp => ?_ | refine oge_intro (by assumption) ?_ | refine awe_intro (ca _) ?_ | refine awsf_intro (ca _) (fun hrun => ?_) | refine oge_intro (ca _) ?_ | refine awse_intro (ca _) (fun hrun => ?_) | refine pge_intro (ca _) (fun tm' => ?_) | refine awe_intro (cb _) ?_ | refine awsf_intro (cb _) (fun hrun => ?_) | refine oge_intro (cb _) ?_ | refine awse_intro (cb _) (fun hrun => ?_) | refine pge_intro (cb _) (fun tm' => ?_)) <;> (simp only [go_sem, Nat.reduceAdd, Nat.reduceSub, Nat.reduceMul, Nat.reduceLeDiff, Nat.reduceLT, Nat.reduceEqDiff, Int.reduceToNat, Int.reduceAdd, Int.reduceMul, Int.reduceSub, Int.reduceLT, Int.reduceLE, Int.reduceEq, Int.reduceNeg, Int.reduceBEq, Int.reduceBNe, ↓reduceIte, reduceCtorEq, o6, hk, encE_eq, w6] <;> try simp (disch := omega) only [wrap_of])) | (refine hn _ _ ?_; clear hn hp Kn Kp) | (refine hp _ _ _ ?_; clear hn hp Kn Kp) | (refine awp_cond rfl (fun hb => ?_) (fun hb => ?_) <;> (try simp only [decide_eq_true_eq, decide_eq_false_iff_not, Bool.not_eq_true', Bool.not_eq_false', Bool.true_eq_false, Bool.false_eq_true, beq_iff_eq, bne_iff_ne, bne_eq_false_iff_eq, beq_eq_false_iff_ne, gt_iff_lt, ge_iff_le, Int.reduceEq, Int.reduceNe, Int.reduceLT, Int.reduceLE, ne_eq, not_true_eq_false, not_false_eq_true] at hb)) | ((first | refine awg_split (fun hb => ?_) (fun hb => ?_) | refine awsg_split (fun hb => ?_) (fun hb => ?_)) <;> have hb0 := hb <;> (try simp only [decide_eq_true_eq, decide_eq_false_iff_not, Bool.not_eq_true', Bool.not_eq_false', Bool.true_eq_false, Bool.false_eq_true, beq_iff_eq, bne_iff_ne, bne_eq_false_iff_eq, beq_eq_false_iff_ne, gt_iff_lt, ge_iff_le, Int.reduceEq, Int.reduceNe, Int.reduceLT, Int.reduceLE, ne_eq, not_true_eq_false, not_false_eq_true] at hb0) <;> (try simp only [beq_true, beq_false, Bool.not_eq_true', Bool.not_eq_false'] at hb) <;> (simp only [go_sem, Nat.reduceAdd, Nat.reduceSub, Nat.reduceMul, Nat.reduceLeDiff, Nat.reduceLT, Nat.reduceEqDiff, Int.reduceToNat, Int.reduceAdd, Int.reduceMul, Int.reduceSub, Int.reduceLT, Int.reduceLE, Int.reduceEq, Int.reduceNeg, Int.reduceBEq, Int.reduceBNe, ↓reduceIte, reduceCtorEq, o6, hk, encE_eq, w6, hb, hb0] <;> try simp (disch := omega) only [wrap_of])) | (refine And.intro ?_ ?_) | refine awp_skip ?_ | refine awp_ret ?_ | refine awp_exit ?_ | refine awp_label ?_ | refine awloop_step ?_ | fail)
                  all_goals
                    ((try simp only [go_sem, Nat.reduceAdd, Nat.reduceSub, Nat.reduceMul, Nat.reduceLeDiff, Nat.reduceLT, Nat.reduceEqDiff, Int.reduceToNat, Int.reduceAdd, Int.reduceMul, Int.reduceSub, Int.reduceLT, Int.reduceLE, Int.reduceEq, Int.reduceNeg, Int.reduceBEq, Int.reduceBNe, ↓reduceIte, reduceCtorEq]); (first | refine ⟨_, rfl, _, rfl, Fin.pure0 0 ?_⟩ | refine ⟨_, rfl, _, rfl, Fin.pure 1 ?_⟩); simp only [AV.low, List.map_cons, List.map_nil, aOne, aev, List.getElem?_cons_zero, List.getElem?_cons_succ, Option.getD_some, List.length_append, List.length_cons, List.length_nil, Nat.lt_irrefl, if_false]; try rfl)
                    simp [*]
                · have o6' : (e.op == 6) = false := by simpa using o6
                  by_cases o9 : e.op = 9
                  · simp only [o9, Int.reduceEq, if_true, if_false]
                    (refine ARun.intro Try.func20 rfl Try.call20 Try.ntmps20 Try.results20 ?_; simp only [List.length_cons, List.length_nil, List.length_map, Nat.reduceAdd, Nat.reduceSub, List.replicate_succ, List.replicate_zero, List.cons_append, List.nil_append])
                    repeat' (first | refine awp_seq ?_ | refine awp_block ?_ | ((first | refine awp_region_k fun Kn Kp hn hp => ?_ | refine awp_drawn_k (id := 8) [12] [] [.win [0], .win [0], .win [0], .win [0], .win [0], .win [0], .win [0], .win [0], .win [0], .win [0], .win [0], .win [0], .eff 0, .win [1], .win [1]] 1 rfl (by as_aux_lemma => kernel_rfl) fun Kn Kp hn hp => ?_ | refine awp_drawn_k (id := 17) [8] [] [.win [0], .win [0], .win [0], .win [0], .win [0], .win [0], .win [0], .win [0], .eff 0, .win [1], .win [1], .win [1], .win [1], .win [1]] 1 rfl (by as_aux_lemma => kernel_rfl) fun Kn Kp hn hp => ?_ | refine awp_drawn_k (id := 18) [8] [] [.win [0], .win [0], .win [0], .win [0], .win [0], .win [0], .win [0], .win [0], .eff 0, .win [1], .win [1], .win [1], .win [1], .win [1]] 1 rfl (by as_aux_lemma => kernel_rfl) fun Kn Kp hn hp => ?_ | refine oge_intro (by assumption) ?_ | refine awe_intro (ca _) ?_ | refine awsf_intro (ca _) (fun hrun => ?_) | refine oge_intro (ca _) ?_ | refine awse_intro (ca _) (fun hrun => ?_) | refine pge_intro (ca _) (fun tm' => ?_) | refine awe_intro (cb _) ?_ | refine awsf_intro (cb _) (fun hrun => ?_) | refine oge_intro (cb _) ?_ | refine awse_intro (cb _) (fun hrun => ?_) | refine pge_intro (cb _) (fun tm' => ?_)) <;> (simp only [go_sem, Nat.reduceAdd, Nat.reduceSub, Nat.reduceMul, Nat.reduceLeDiff, Nat.reduceLT, Nat.reduceEqDiff, Int.reduceToNat, Int.reduceAdd, Int.reduceMul, Int.reduceSub, Int.reduceLT, Int.reduceLE, Int.reduceEq, Int.reduceNeg, Int.reduceBEq, Int.reduceBNe, ↓reduceIte, reduceCtorEq, o9, hk, encE_eq] <;> try simp (disch := omega) only [wrap_of])) | (refine hn _ _ ?_; clear hn hp Kn Kp) | (refine hp _ _ _ ?_; clear hn hp Kn Kp) | (refine awp_cond rfl (fun hb => ?_) (fun hb => ?_) <;> (try simp only [decide_eq_true_eq, decide_eq_false_iff_not, Bool.not_eq_true', Bool.not_eq_false', Bool.true_eq_false, Bool.false_eq_true, beq_iff_eq, bne_iff_ne, bne_eq_false_iff_eq, beq_eq_false_iff_ne, gt_iff_lt, ge_iff_le, Int.reduceEq, Int.reduceNe, Int.reduceLT, Int.reduceLE, ne_eq, not_true_eq_false, not_false_eq_true] at hb)) | ((first | refine awg_split (fun hb => ?_) (fun hb => ?_) | refine awsg_split (fun hb => ?_) (fun hb => ?_)) <;> have hb0 := hb <;> (try simp only [decide_eq_true_eq, decide_eq_false_iff_not, Bool.not_eq_true', Bool.not_eq_false', Bool.true_eq_false, Bool.false_eq_true, beq_iff_eq, bne_iff_ne, bne_eq_false_iff_eq, beq_eq_false_iff_ne, gt_iff_lt, ge_iff_le, Int.reduceEq, Int.reduceNe, Int.reduceLT, Int.reduceLE, ne_eq, not_true_eq_false, not_false_eq_true] at hb0) <;> (try simp only [beq_true, beq_false, Bool.not_eq_true', Bool.not_eq_false'] at hb) <;> (simp only [go_sem, Nat.reduceAdd, Nat.reduceSub, Nat.reduceMul, Nat.reduceLeDiff, Nat.reduceLT, Nat.reduceEqDiff, Int.reduceToNat, Int.reduceAdd, Int.reduceMul, Int.reduceSub, Int.reduceLT, Int.reduceLE, Int.reduceEq, Int.reduceNeg, Int.reduceBEq, Int.reduceBNe, ↓reduceIte, reduceCtorEq, o9, hk, encE_eq, hb, hb0] <;> try simp (disch := omega) only [wrap_of])) | (refine And.intro ?_ ?_) | refine awp_skip ?_ | refine awp_ret ?_ | refine awp_exit ?_ | refine awp_label ?_ | refine awloop_step ?_ | fail)
                    all_goals
                      ((try simp only [go_sem, Nat.reduceAdd, Nat.reduceSub, Nat.reduceMul, Nat.reduceLeDiff, Nat.reduceLT, Nat.reduceEqDiff, Int.reduceToNat, Int.reduceAdd, Int.reduceMul, Int.reduceSub, Int.reduceLT, Int.reduceLE, Int.reduceEq, Int.reduceNeg, Int.reduceBEq, Int.reduceBNe, ↓reduceIte, reduceCtorEq]); (first | refine ⟨_, rfl, _, rfl, Fin.pure0 0 ?_⟩ | refine ⟨_, rfl, _, rfl, Fin.pure 1 ?_⟩); simp only [AV.low, List.map_cons, List.map_nil, aOne, aev, List.getElem?_cons_zero, List.getElem?_cons_succ, Option.getD_some, List.length_append, List.length_cons, List.length_nil, Nat.lt_irrefl, if_false]; try rfl)
                      simp [*]
                  · have o9' : (e.op == 9) = false := by simpa using o9
                    by_cases o10 : e.op = 10
                    · simp only [o10, Int.reduceEq, if_true, if_false]
                      (refine ARun.intro Try.func20 rfl Try.call20 Try.ntmps20 Try.results20 ?_; simp only [List.length_cons, List.length_nil, List.length_map, Nat.reduceAdd, Nat.reduceSub, List.replicate_succ, List.replicate_zero, List.cons_append, List.nil_append])
                      repeat' (first | refine awp_seq ?_ | refine awp_block ?_ | ((first | refine awp_region_k fun Kn Kp hn hp => ?_ | refine awp_drawn_k (id := 8) [12] [] [.win [0], .win [0], .win [0], .win [0], .win [0], .win [0], .win [0], .win [0], .win [0], .win [0], .win [0], .win [0], .eff 0, .win [1], .win [1]] 1 rfl (by as_aux_lemma => kernel_rfl) fun Kn Kp hn hp => ?_ | refine awp_drawn_k (id := 17) [8] [] [.win [0], .win [0], .win [0], .win [0], .win [0], .win [0], .win [0], .win [0], .eff 0, .win [1], .win [1], .win [1], .win [1], .win [1]] 1 rfl (by as_aux_lemma => kernel_rfl) fun Kn Kp hn hp => ?_ | refine awp_drawn_k (id := 18) [8] [] [.win [0], .win [0], .win [0], .win [0], .win [0], .win [0], .win [0], .win [0], .eff 0, .win [1], .win [1], .win [1], .win [1], .win [1]] 1 rfl (by as_aux_lemma => kernel_rfl) fun Kn Kp hn hp => ?_ | refine oge_intro (by assumption) ?_ | refine awe_intro (ca _) ?_ | refine awsf_intro (ca _) (fun hrun => ?_) | refine oge_intro (ca _) ?_ | refine awse_intro (ca _) (fun hrun => ?_) | refine pge_intro (ca _) (fun tm' => ?_) | refine awe_intro (cb _) ?_ | refine awsf_intro (cb _) (fun hrun => ?_) | refine oge_intro (cb _) ?_ | refine awse_intro (cb _) (fun hrun => ?_) | refine pge_intro (cb _) (fun tm' => ?_)) <;> (simp only [go_sem, Nat.reduceAdd, Nat.reduceSub, Nat.reduceMul, Nat.reduceLeDiff, Nat.reduceLT, Nat.reduceEqDiff, Int.reduceToNat, Int.reduceAdd, Int.reduceMul, Int.reduceSub, Int.reduceLT, Int.reduceLE, Int.reduceEq, Int.reduceNeg, Int.reduceBEq, Int.reduceBNe, ↓reduceIte, reduceCtorEq, o10, hk, encE_eq] <;> try simp (disch := omega) only [wrap_of])) | (refine hn _ _ ?_; clear hn hp Kn Kp) | (refine hp _ _ _ ?_; clear hn hp Kn Kp) | (refine awp_cond rfl (fun hb => ?_) (fun hb => ?_) <;> (try simp only [decide_eq_true_eq, decide_eq_false_iff_not, Bool.not_eq_true', Bool.not_eq_false', Bool.true_eq_false, Bool.false_eq_true, beq_iff_eq, bne_iff_ne, bne_eq_false_iff_eq, beq_eq_false_iff_ne, gt_iff_lt, ge_iff_le, Int.reduceEq, Int.reduceNe, Int.reduceLT, Int.reduceLE, ne_eq, not_true_eq_false, not_false_eq_true] at hb)) | ((first | refine awg_split (fun hb => ?_) (fun hb => ?_) | refine awsg_split (fun hb => ?_) (fun hb => ?_)) <;> have hb0 := hb <;> (try simp only [decide_eq_true_eq, decide_eq_false_iff_not, Bool.not_eq_true', Bool.not_eq_false', Bool.true_eq_false, Bool.false_eq_true, beq_iff_eq, bne_iff_ne, bne_eq_false_iff_eq, beq_eq_false_iff_ne, gt_iff_lt, ge_iff_le, Int.reduceEq, Int.reduceNe, Int.reduceLT, Int.reduceLE, ne_eq, not_true_eq_false, not_false_eq_true] at hb0) <;> (try simp only [beq_true, beq_false, Bool.not_eq_true', Bool.not_eq_false'] at hb) <;> (simp only [go_sem, Nat.reduceAdd, Nat.reduceSub, Nat.reduceMul, Nat.reduceLeDiff, Nat.reduceLT, Nat.reduceEqDiff, Int.reduceToNat, Int.reduceAdd, Int.reduceMul, Int.reduceSub, Int.reduceLT, Int.reduceLE, Int.reduceEq, Int.reduceNeg, Int.reduceBEq, Int.reduceBNe, ↓reduceIte, reduceCtorEq, o10, hk, encE_eq, hb, hb0] <;> try simp (disch := omega) only [wrap_of])) | (refine And.intro ?_ ?_) | refine awp_skip ?_ | refine awp_ret ?_ | refine awp_exit ?_ | refine awp_label ?_ | refine awloop_step ?_ | fail)
                      all_goals
                        ((try simp only [go_sem, Nat.reduceAdd, Nat.reduceSub, Nat.reduceMul, Nat.reduceLeDiff, Nat.reduceLT, Nat.reduceEqDiff, Int.reduceToNat, Int.reduceAdd, Int.reduceMul, Int.reduceSub, Int.reduceLT, Int.reduceLE, Int.reduceEq, Int.reduceNeg, Int.reduceBEq, Int.reduceBNe, ↓reduceIte, reduceCtorEq]); (first | refine ⟨_, rfl, _, rfl, Fin.pure0 0 ?_⟩ | refine ⟨_, rfl, _, rfl, Fin.pure 1 ?_⟩); simp only [AV.low, List.map_cons, List.map_nil, aOne, aev, List.getElem?_cons_zero, List.getElem?_cons_succ, Option.getD_some, List.length_append, List.length_cons, List.length_nil, Nat.lt_irrefl, if_false]; try rfl)
                        simp [*]
                    · have o10' : (e.op == 10) = false := by simpa using o10
                      simp only [o4, o5, o6, o9, o10, if_false]
                      (refine ARun.intro Try.func20 rfl Try.call20 Try.ntmps20 Try.results20 ?_; simp only [List.length_cons, List.length_nil, List.length_map, Nat.reduceAdd, Nat.reduceSub, List.replicate_succ, List.replicate_zero, List.cons_append, List.nil_append])
                      repeat' (first | refine awp_seq ?_ | refine awp_block ?_ | ((first | refine awp_region_k fun Kn Kp hn hp => ?_ | refine awp_drawn_k (id := 8) [12] [] [.win [0], .win [0], .win [0], .win [0], .win [0], .win [0], .win [0], .win [0], .win [0], .win [0], .win [0], .win [0], .eff 0, .win [1], .win [1]] 1 rfl (by as_aux_lemma => kernel_rfl) fun Kn Kp hn hp => ?_ | refine awp_drawn_k (id := 17) [8] [] [.win [0], .win [0], .win [0], .win [0], .win [0], .win [0], .win [0], .win [0], .eff 0, .win [1], .win [1], .win [1], .win [1], .win [1]] 1 rfl (by as_aux_lemma => kernel_rfl) fun Kn Kp hn hp => ?_ | refine awp_drawn_k (id := 18) [8] [] [.win [0], .win [0], .win [0], .win [0], .win [0], .win [0], .win [0], .win [0], .eff 0, .win [1], .win [1], .win [1], .win [1], .win [1]] 1 rfl (by as_aux_lemma => kernel_rfl) fun Kn Kp hn hp => ?_ | refine oge_intro (by assumption) ?_ | refine awe_intro (ca _) ?_ | refine awsf_intro (ca _) (fun hrun => ?_) | refine oge_intro (ca _) ?_ | refine awse_intro (ca _) (fun hrun => ?_) | refine pge_intro (ca _) (fun tm' => ?_) | refine awe_intro (cb _) ?_ | refine awsf_intro (cb _) (fun hrun => ?_) | refine oge_intro (cb _) ?_ | refine awse_intro (cb _) (fun hrun => ?_) | refine pge_intro (cb _) (fun tm' => ?_)) <;> (simp only [go_sem, Nat.reduceAdd, Nat.reduceSub, Nat.reduceMul, Nat.reduceLeDiff, Nat.reduceLT, Nat.reduceEqDiff, Int.reduceToNat, Int.reduceAdd, Int.reduceMul, Int.reduceSub, Int.reduceLT, Int.reduceLE, Int.reduceEq, Int.reduceNeg, Int.reduceBEq, Int.reduceBNe, ↓reduceIte, reduceCtorEq, o1', o2', o3', o4', o5', o6', o9', o10', hk, encE_eq] <;> try simp (disch := omega) only [wrap_of])) | (refine hn _ _ ?_; clear hn hp Kn Kp) | (refine hp _ _ _ ?_; clear hn hp Kn Kp) | (refine awp_cond rfl (fun hb => ?_) (fun hb => ?_) <;> (try simp only [decide_eq_true_eq, decide_eq_false_iff_not, Bool.not_eq_true', Bool.not_eq_false', Bool.true_eq_false, Bool.false_eq_true, beq_iff_eq, bne_iff_ne, bne_eq_false_iff_eq, beq_eq_false_iff_ne, gt_iff_lt, ge_iff_le, Int.reduceEq, Int.reduceNe, Int.reduceLT, Int.reduceLE, ne_eq, not_true_eq_false, not_false_eq_true] at hb)) | ((first | refine awg_split (fun hb => ?_) (fun hb => ?_) | refine awsg_split (fun hb => ?_) (fun hb => ?_)) <;> have hb0 := hb <;> (try simp only [decide_eq_true_eq, decide_eq_false_iff_not, Bool.not_eq_true', Bool.not_eq_false', Bool.true_eq_false, Bool.false_eq_true, beq_iff_eq, bne_iff_ne, bne_eq_false_iff_eq, beq_eq_false_iff_ne, gt_iff_lt, ge_iff_le, Int.reduceEq, Int.reduceNe, Int.reduceLT, Int.reduceLE, ne_eq, not_true_eq_false, not_false_eq_true] at hb0) <;> (try simp only [beq_true, beq_false, Bool.not_eq_true', Bool.not_eq_false'] at hb) <;> (simp only [go_sem, Nat.reduceAdd, Nat.reduceSub, Nat.reduceMul, Nat.reduceLeDiff, Nat.reduceLT, Nat.reduceEqDiff, Int.reduceToNat, Int.reduceAdd, Int.reduceMul, Int.reduceSub, Int.reduceLT, Int.reduceLE, Int.reduceEq, Int.reduceNeg, Int.reduceBEq, Int.reduceBNe, ↓reduceIte, reduceCtorEq, o1', o2', o3', o4', o5', o6', o9', o10', hk, encE_eq, hb, hb0] <;> try simp (disch := omega) only [wrap_of])) | (refine And.intro ?_ ?_) | refine awp_skip ?_ | refine awp_ret ?_ | refine awp_exit ?_ | refine awp_label ?_ | refine awloop_step ?_ | fail)
                      ((try simp only [go_sem, Nat.reduceAdd, Nat.reduceSub, Nat.reduceMul, Nat.reduceLeDiff, Nat.reduceLT, Nat.reduceEqDiff, Int.reduceToNat, Int.reduceAdd, Int.reduceMul, Int.reduceSub, Int.reduceLT, Int.reduceLE, Int.reduceEq, Int.reduceNeg, Int.reduceBEq, Int.reduceBNe, ↓reduceIte, reduceCtorEq]); (first | refine ⟨_, rfl, _, rfl, Fin.pure0 0 ?_⟩ | refine ⟨_, rfl, _, rfl, Fin.pure 1 ?_⟩); simp only [AV.low, List.map_cons, List.map_nil, aOne, aev, List.getElem?_cons_zero, List.getElem?_cons_succ, Option.getD_some, List.length_append, List.length_cons, List.length_nil, Nat.lt_irrefl, if_false]; try rfl)
          · have hv := valZ_other (l := l) (st := st) (i0 := i0) (i1 := i1) (i2 := i2) (i3 := i3) (times := times) hk2 o1 o2 o3
            have hk2' : ((e.kids.length : Int) != 2) = true := by simp; omega
            rw [hv]
            (refine ARun.intro Try.func20 rfl Try.call20 Try.ntmps20 Try.results20 ?_; simp only [List.length_cons, List.length_nil, List.length_map, Nat.reduceAdd, Nat.reduceSub, List.replicate_succ, List.replicate_zero, List.cons_append, List.nil_append])
            repeat' (first | refine awp_seq ?_ | refine awp_block ?_ | ((first | refine awp_region_k fun Kn Kp hn hp => ?_ | refine awp_drawn_k (id := 8) [12] [] [.win [0], .win [0], .win [0], .win [0], .win [0], .win [0], .win [0], .win [0], .win [0], .win [0], .win [0], .win [0], .eff 0, .win [1], .win [1]] 1 rfl (by as_aux_lemma => kernel_rfl) fun Kn Kp hn hp => ?_ | refine awp_drawn_k (id := 17) [8] [] [.win [0], .win [0], .win [0], .win [0], .win [0], .win [0], .win [0], .win [0], .eff 0, .win [1], .win [1], .win [1], .win [1], .win [1]] 1 rfl (by as_aux_lemma => kernel_rfl) fun Kn Kp hn hp => ?_ | refine awp_drawn_k (id := 18) [8] [] [.win [0], .win [0], .win [0], .win [0], .win [0], .win [0], .win [0], .win [0], .eff 0, .win [1], .win [1], .win [1], .win [1], .win [1]] 1 rfl (by as_aux_lemma => kernel_rfl) fun Kn Kp hn hp => ?_ | refine oge_intro (by assumption) ?_) <;> (simp only [go_sem, Nat.reduceAdd, Nat.reduceSub, Nat.reduceMul, Nat.reduceLeDiff, Nat.reduceLT, Nat.reduceEqDiff, Int.reduceToNat, Int.reduceAdd, Int.reduceMul, Int.reduceSub, Int.reduceLT, Int.reduceLE, Int.reduceEq, Int.reduceNeg, Int.reduceBEq, Int.reduceBNe, ↓reduceIte, reduceCtorEq, o1', o2', o3', hk2'] <;> try simp (disch := omega) only [wrap_of])) | (refine hn _ _ ?_; clear hn hp Kn Kp) | (refine hp _ _ _ ?_; clear hn hp Kn Kp) | (refine awp_cond rfl (fun hb => ?_) (fun hb => ?_) <;> (try simp only [decide_eq_true_eq, decide_eq_false_iff_not, Bool.not_eq_true', Bool.not_eq_false', Bool.true_eq_false, Bool.false_eq_true, beq_iff_eq, bne_iff_ne, bne_eq_false_iff_eq, beq_eq_false_iff_ne, gt_iff_lt, ge_iff_le, Int.reduceEq, Int.reduceNe, Int.reduceLT, Int.reduceLE, ne_eq, not_true_eq_false, not_false_eq_true] at hb)) | ((first | refine awg_split (fun hb => ?_) (fun hb => ?_) | refine awsg_split (fun hb => ?_) (fun hb => ?_)) <;> have hb0 := hb <;> (try simp only [decide_eq_true_eq, decide_eq_false_iff_not, Bool.not_eq_true', Bool.not_eq_false', Bool.true_eq_false, Bool.false_eq_true, beq_iff_eq, bne_iff_ne, bne_eq_false_iff_eq, beq_eq_false_iff_ne, gt_iff_lt, ge_iff_le, Int.reduceEq, Int.reduceNe, Int.reduceLT, Int.reduceLE, ne_eq, not_true_eq_false, not_false_eq_true] at hb0) <;> (try simp only [beq_true, beq_false, Bool.not_eq_true', Bool.not_eq_false'] at hb) <;> (simp only [go_sem, Nat.reduceAdd, Nat.reduceSub, Nat.reduceMul, Nat.reduceLeDiff, Nat.reduceLT, Nat.reduceEqDiff, Int.reduceToNat, Int.reduceAdd, Int.reduceMul, Int.reduceSub, Int.reduceLT, Int.reduceLE, Int.reduceEq, Int.reduceNeg, Int.reduceBEq, Int.reduceBNe, ↓reduceIte, reduceCtorEq, o1', o2', o3', hk2', hb, hb0] <;> try simp (disch := omega) only [wrap_of])) | (refine And.intro ?_ ?_) | refine awp_skip ?_ | refine awp_ret ?_ | refine awp_exit ?_ | refine awp_label ?_ | refine awloop_step ?_ | fail)
            ((try simp only [go_sem, Nat.reduceAdd, Nat.reduceSub, Nat.reduceMul, Nat.reduceLeDiff, Nat.reduceLT, Nat.reduceEqDiff, Int.reduceToNat, Int.reduceAdd, Int.reduceMul, Int.reduceSub, Int.reduceLT, Int.reduceLE, Int.reduceEq, Int.reduceNeg, Int.reduceBEq, Int.reduceBNe, ↓reduceIte, reduceCtorEq]); (first | refine ⟨_, rfl, _, rfl, Fin.pure0 0 ?_⟩ | refine ⟨_, rfl, _, rfl, Fin.pure 1 ?_⟩); simp only [AV.low, List.map_cons, List.map_nil, aOne, aev, List.getElem?_cons_zero, List.getElem?_cons_succ, Option.getD_some, List.length_append, List.length_cons, List.length_nil, Nat.lt_irrefl, if_false]; try rfl)
end Go.Proofs.Ytkchihkmhojdnaa.Y

set_option maxHeartbeats 16000000
set_option maxRecDepth 20000
set_option linter.unusedVariables false
set_option linter.unusedSimpArgs false
namespace Go.Proofs.Ytkchihkmhojdnaa.Y
open Go.Proofs.Ytkchihkmhojdnaa.AL Go.Proofs Go

theorem pow_rng {t : Int} (h : 1 ≤ t ∧ t ≤ 9) {k : Nat} (hk : k ≤ 5) : 1 ≤ t ^ k ∧ t ^ k ≤ 59049 := by
  have key : ∀ k : Nat, 1 ≤ t ^ k ∧ t ^ k ≤ 9 ^ k := by
    intro k
    induction k with
    | zero => simp
    | succ k ih =>
      rw [Int.pow_succ, Int.pow_succ]
      have h9 : (0 : Int) ≤ 9 ^ k := Int.pow_nonneg (by omega)
      have a1 := Int.mul_le_mul_of_nonneg_left h.2 (show 0 ≤ t ^ k by omega)
      have a2 := Int.mul_le_mul_of_nonneg_left h.1 (show 0 ≤ t ^ k by omega)
      omega
  have h1 := key k
  have h2 : (9 : Int) ^ k ≤ 9 ^ 5 := by
    have : 9 ^ k ≤ 9 ^ 5 := Nat.pow_le_pow_right (by omega) (by omega)
    exact_mod_cast this
  have h3 : (9 : Int) ^ 5 = 59049 := by decide
  omega
theorem Scaling_run (l : List Vr) (st : List Int) (hst : ∀ x ∈ st, 0 ≤ x) (i0 i1 i2 i3 : Int) (g0 : 0 ≤ i0) (g1 : 0 ≤ i1) (g2 : 0 ≤ i2) (g3 : 0 ≤ i3) (e : Ex) (times : Int) (H0 : List AObj) :
    ARun Try.prog 6 [.rs 5 (l.map encV), .rs 1 (st.map fun n => [u8 n]), .ag [u8 i0, u8 i1, u8 i2, u8 i3], .ag (cE e), .i times] H0 (.ret (.b true) H0) := by
  have hh := fun H0 => head_run H0
  have hz := fun H0 => Size_run e 15 H0 (by omega) (by omega)
  have hg := size_gt e 15 (by omega)
  by_cases h15 : 15 < size e 15
  · (refine ARun.intro Try.func6 rfl Try.call6 Try.ntmps6 Try.results6 ?_; simp only [List.length_cons, List.length_nil, List.length_map, Nat.reduceAdd, Nat.reduceSub, List.replicate_succ, List.replicate_zero, List.cons_append, List.nil_append])
    repeat' (first | refine awp_seq ?_ | refine awp_block ?_ | ((first | refine awp_region_k fun Kn Kp hn hp => ?_ | refine oge_intro (by assumption) ?_ | refine awe_intro (hh _) ?_ | refine awsf_intro (hh _) (fun hrun => ?_) | refine oge_intro (hh _) ?_ | refine awse_intro (hh _) (fun hrun => ?_) | refine pge_intro (hh _) (fun tm' => ?_) | refine awe_intro (hz _) ?_ | refine awsf_intro (hz _) (fun hrun => ?_) | refine oge_intro (hz _) ?_ | refine awse_intro (hz _) (fun hrun => ?_) | refine pge_intro (hz _) (fun tm' => ?_)) <;> (simp only [go_sem, Nat.reduceAdd, Nat.reduceSub, Nat.reduceMul, Nat.reduceLeDiff, Nat.reduceLT, Nat.reduceEqDiff, Int.reduceToNat, Int.reduceAdd, Int.reduceMul, Int.reduceSub, Int.reduceLT, Int.reduceLE, Int.reduceEq, Int.reduceNeg, Int.reduceBEq, Int.reduceBNe, ↓reduceIte, reduceCtorEq, h15] <;> try simp (disch := omega) only [wrap_of])) | (refine hn _ _ ?_; clear hn hp Kn Kp) | (refine hp _ _ _ ?_; clear hn hp Kn Kp) | (refine awp_cond rfl (fun hb => ?_) (fun hb => ?_) <;> (try simp only [decide_eq_true_eq, decide_eq_false_iff_not, Bool.not_eq_true', Bool.not_eq_false', Bool.true_eq_false, Bool.false_eq_true, beq_iff_eq, bne_iff_ne, bne_eq_false_iff_eq, beq_eq_false_iff_ne, gt_iff_lt, ge_iff_le, Int.reduceEq, Int.reduceNe, Int.reduceLT, Int.reduceLE, ne_eq, not_true_eq_false, not_false_eq_true] at hb)) | ((first | refine awg_split (fun hb => ?_) (fun hb => ?_) | refine awsg_split (fun hb => ?_) (fun hb => ?_)) <;> have hb0 := hb <;> (try simp only [decide_eq_true_eq, decide_eq_false_iff_not, Bool.not_eq_true', Bool.not_eq_false', Bool.true_eq_false, Bool.false_eq_true, beq_iff_eq, bne_iff_ne, bne_eq_false_iff_eq, beq_eq_false_iff_ne, gt_iff_lt, ge_iff_le, Int.reduceEq, Int.reduceNe, Int.reduceLT, Int.reduceLE, ne_eq, not_true_eq_false, not_false_eq_true] at hb0) <;> (try simp only [beq_true, beq_false, Bool.not_eq_true', Bool.not_eq_false'] at hb) <;> (simp only [go_sem, Nat.reduceAdd, Nat.reduceSub, Nat.reduceMul, Nat.reduceLeDiff, Nat.reduceLT, Nat.reduceEqDiff, Int.reduceToNat, Int.reduceAdd, Int.reduceMul, Int.reduceSub, Int.reduceLT, Int.reduceLE, Int.reduceEq, Int.reduceNeg, Int.reduceBEq, Int.reduceBNe, ↓reduceIte, reduceCtorEq, h15, hb, hb0] <;> try simp (disch := omega) only [wrap_of])) | (refine And.intro ?_ ?_) | refine awp_skip ?_ | refine awp_ret ?_ | refine awp_exit ?_ | refine awp_label ?_ | refine awloop_step ?_ | fail)
    ((try simp only [go_sem, Nat.reduceAdd, Nat.reduceSub, Nat.reduceMul, Nat.reduceLeDiff, Nat.reduceLT, Nat.reduceEqDiff, Int.reduceToNat, Int.reduceAdd, Int.reduceMul, Int.reduceSub, Int.reduceLT, Int.reduceLE, Int.reduceEq, Int.reduceNeg, Int.reduceBEq, Int.reduceBNe, ↓reduceIte, reduceCtorEq]); (first | refine ⟨_, rfl, _, rfl, Fin.pure0 0 ?_⟩ | refine ⟨_, rfl, _, rfl, Fin.pure 1 ?_⟩); simp only [AV.low, List.map_cons, List.map_nil, aOne, aev, List.getElem?_cons_zero, List.getElem?_cons_succ, Option.getD_some, List.length_append, List.length_cons, List.length_nil, Nat.lt_irrefl, if_false]; try rfl)
  · have hn15 : nodes e ≤ 15 := by have := fun h => h15 (hg.2 h); omega
    by_cases hl : (12 : Int) < l.length
    · (refine ARun.intro Try.func6 rfl Try.call6 Try.ntmps6 Try.results6 ?_; simp only [List.length_cons, List.length_nil, List.length_map, Nat.reduceAdd, Nat.reduceSub, List.replicate_succ, List.replicate_zero, List.cons_append, List.nil_append])
      repeat' (first | refine awp_seq ?_ | refine awp_block ?_ | ((first | refine awp_region_k fun Kn Kp hn hp => ?_ | refine oge_intro (by assumption) ?_ | refine awe_intro (hh _) ?_ | refine awsf_intro (hh _) (fun hrun => ?_) | refine oge_intro (hh _) ?_ | refine awse_intro (hh _) (fun hrun => ?_) | refine pge_intro (hh _) (fun tm' => ?_) | refine awe_intro (hz _) ?_ | refine awsf_intro (hz _) (fun hrun => ?_) | refine oge_intro (hz _) ?_ | refine awse_intro (hz _) (fun hrun => ?_) | refine pge_intro (hz _) (fun tm' => ?_)) <;> (simp only [go_sem, Nat.reduceAdd, Nat.reduceSub, Nat.reduceMul, Nat.reduceLeDiff, Nat.reduceLT, Nat.reduceEqDiff, Int.reduceToNat, Int.reduceAdd, Int.reduceMul, Int.reduceSub, Int.reduceLT, Int.reduceLE, Int.reduceEq, Int.reduceNeg, Int.reduceBEq, Int.reduceBNe, ↓reduceIte, reduceCtorEq, h15, hl] <;> try simp (disch := omega) only [wrap_of])) | (refine hn _ _ ?_; clear hn hp Kn Kp) | (refine hp _ _ _ ?_; clear hn hp Kn Kp) | (refine awp_cond rfl (fun hb => ?_) (fun hb => ?_) <;> (try simp only [decide_eq_true_eq, decide_eq_false_iff_not, Bool.not_eq_true', Bool.not_eq_false', Bool.true_eq_false, Bool.false_eq_true, beq_iff_eq, bne_iff_ne, bne_eq_false_iff_eq, beq_eq_false_iff_ne, gt_iff_lt, ge_iff_le, Int.reduceEq, Int.reduceNe, Int.reduceLT, Int.reduceLE, ne_eq, not_true_eq_false, not_false_eq_true] at hb)) | ((first | refine awg_split (fun hb => ?_) (fun hb => ?_) | refine awsg_split (fun hb => ?_) (fun hb => ?_)) <;> have hb0 := hb <;> (try simp only [decide_eq_true_eq, decide_eq_false_iff_not, Bool.not_eq_true', Bool.not_eq_false', Bool.true_eq_false, Bool.false_eq_true, beq_iff_eq, bne_iff_ne, bne_eq_false_iff_eq, beq_eq_false_iff_ne, gt_iff_lt, ge_iff_le, Int.reduceEq, Int.reduceNe, Int.reduceLT, Int.reduceLE, ne_eq, not_true_eq_false, not_false_eq_true] at hb0) <;> (try simp only [beq_true, beq_false, Bool.not_eq_true', Bool.not_eq_false'] at hb) <;> (simp only [go_sem, Nat.reduceAdd, Nat.reduceSub, Nat.reduceMul, Nat.reduceLeDiff, Nat.reduceLT, Nat.reduceEqDiff, Int.reduceToNat, Int.reduceAdd, Int.reduceMul, Int.reduceSub, Int.reduceLT, Int.reduceLE, Int.reduceEq, Int.reduceNeg, Int.reduceBEq, Int.reduceBNe, ↓reduceIte, reduceCtorEq, h15, hl, hb, hb0] <;> try simp (disch := omega) only [wrap_of])) | (refine And.intro ?_ ?_) | refine awp_skip ?_ | refine awp_ret ?_ | refine awp_exit ?_ | refine awp_label ?_ | refine awloop_step ?_ | fail)
      ((try simp only [go_sem, Nat.reduceAdd, Nat.reduceSub, Nat.reduceMul, Nat.reduceLeDiff, Nat.reduceLT, Nat.reduceEqDiff, Int.reduceToNat, Int.reduceAdd, Int.reduceMul, Int.reduceSub, Int.reduceLT, Int.reduceLE, Int.reduceEq, Int.reduceNeg, Int.reduceBEq, Int.reduceBNe, ↓reduceIte, reduceCtorEq]); (first | refine ⟨_, rfl, _, rfl, Fin.pure0 0 ?_⟩ | refine ⟨_, rfl, _, rfl, Fin.pure 1 ?_⟩); simp only [AV.low, List.map_cons, List.map_nil, aOne, aev, List.getElem?_cons_zero, List.getElem?_cons_succ, Option.getD_some, List.length_append, List.length_cons, List.length_nil, Nat.lt_irrefl, if_false]; try rfl)
    · by_cases ht1 : times < 1
      · (refine ARun.intro Try.func6 rfl Try.call6 Try.ntmps6 Try.results6 ?_; simp only [List.length_cons, List.length_nil, List.length_map, Nat.reduceAdd, Nat.reduceSub, List.replicate_succ, List.replicate_zero, List.cons_append, List.nil_append])
        repeat' (first | refine awp_seq ?_ | refine awp_block ?_ | ((first | refine awp_region_k fun Kn Kp hn hp => ?_ | refine oge_intro (by assumption) ?_ | refine awe_intro (hh _) ?_ | refine awsf_intro (hh _) (fun hrun => ?_) | refine oge_intro (hh _) ?_ | refine awse_intro (hh _) (fun hrun => ?_) | refine pge_intro (hh _) (fun tm' => ?_) | refine awe_intro (hz _) ?_ | refine awsf_intro (hz _) (fun hrun => ?_) | refine oge_intro (hz _) ?_ | refine awse_intro (hz _) (fun hrun => ?_) | refine pge_intro (hz _) (fun tm' => ?_)) <;> (simp only [go_sem, Nat.reduceAdd, Nat.reduceSub, Nat.reduceMul, Nat.reduceLeDiff, Nat.reduceLT, Nat.reduceEqDiff, Int.reduceToNat, Int.reduceAdd, Int.reduceMul, Int.reduceSub, Int.reduceLT, Int.reduceLE, Int.reduceEq, Int.reduceNeg, Int.reduceBEq, Int.reduceBNe, ↓reduceIte, reduceCtorEq, h15, hl, ht1] <;> try simp (disch := omega) only [wrap_of])) | (refine hn _ _ ?_; clear hn hp Kn Kp) | (refine hp _ _ _ ?_; clear hn hp Kn Kp) | (refine awp_cond rfl (fun hb => ?_) (fun hb => ?_) <;> (try simp only [decide_eq_true_eq, decide_eq_false_iff_not, Bool.not_eq_true', Bool.not_eq_false', Bool.true_eq_false, Bool.false_eq_true, beq_iff_eq, bne_iff_ne, bne_eq_false_iff_eq, beq_eq_false_iff_ne, gt_iff_lt, ge_iff_le, Int.reduceEq, Int.reduceNe, Int.reduceLT, Int.reduceLE, ne_eq, not_true_eq_false, not_false_eq_true] at hb)) | ((first | refine awg_split (fun hb => ?_) (fun hb => ?_) | refine awsg_split (fun hb => ?_) (fun hb => ?_)) <;> have hb0 := hb <;> (try simp only [decide_eq_true_eq, decide_eq_false_iff_not, Bool.not_eq_true', Bool.not_eq_false', Bool.true_eq_false, Bool.false_eq_true, beq_iff_eq, bne_iff_ne, bne_eq_false_iff_eq, beq_eq_false_iff_ne, gt_iff_lt, ge_iff_le, Int.reduceEq, Int.reduceNe, Int.reduceLT, Int.reduceLE, ne_eq, not_true_eq_false, not_false_eq_true] at hb0) <;> (try simp only [beq_true, beq_false, Bool.not_eq_true', Bool.not_eq_false'] at hb) <;> (simp only [go_sem, Nat.reduceAdd, Nat.reduceSub, Nat.reduceMul, Nat.reduceLeDiff, Nat.reduceLT, Nat.reduceEqDiff, Int.reduceToNat, Int.reduceAdd, Int.reduceMul, Int.reduceSub, Int.reduceLT, Int.reduceLE, Int.reduceEq, Int.reduceNeg, Int.reduceBEq, Int.reduceBNe, ↓reduceIte, reduceCtorEq, h15, hl, ht1, hb, hb0] <;> try simp (disch := omega) only [wrap_of])) | (refine And.intro ?_ ?_) | refine awp_skip ?_ | refine awp_ret ?_ | refine awp_exit ?_ | refine awp_label ?_ | refine awloop_step ?_ | fail)
        ((try simp only [go_sem, Nat.reduceAdd, Nat.reduceSub, Nat.reduceMul, Nat.reduceLeDiff, Nat.reduceLT, Nat.reduceEqDiff, Int.reduceToNat, Int.reduceAdd, Int.reduceMul, Int.reduceSub, Int.reduceLT, Int.reduceLE, Int.reduceEq, Int.reduceNeg, Int.reduceBEq, Int.reduceBNe, ↓reduceIte, reduceCtorEq]); (first | refine ⟨_, rfl, _, rfl, Fin.pure0 0 ?_⟩ | refine ⟨_, rfl, _, rfl, Fin.pure 1 ?_⟩); simp only [AV.low, List.map_cons, List.map_nil, aOne, aev, List.getElem?_cons_zero, List.getElem?_cons_succ, Option.getD_some, List.length_append, List.length_cons, List.length_nil, Nat.lt_irrefl, if_false]; try rfl)
      · by_cases ht9 : 9 < times
        · (refine ARun.intro Try.func6 rfl Try.call6 Try.ntmps6 Try.results6 ?_; simp only [List.length_cons, List.length_nil, List.length_map, Nat.reduceAdd, Nat.reduceSub, List.replicate_succ, List.replicate_zero, List.cons_append, List.nil_append])
          repeat' (first | refine awp_seq ?_ | refine awp_block ?_ | ((first | refine awp_region_k fun Kn Kp hn hp => ?_ | refine oge_intro (by assumption) ?_ | refine awe_intro (hh _) ?_ | refine awsf_intro (hh _) (fun hrun => ?_) | refine oge_intro (hh _) ?_ | refine awse_intro (hh _) (fun hrun => ?_) | refine pge_intro (hh _) (fun tm' => ?_) | refine awe_intro (hz _) ?_ | refine awsf_intro (hz _) (fun hrun => ?_) | refine oge_intro (hz _) ?_ | refine awse_intro (hz _) (fun hrun => ?_) | refine pge_intro (hz _) (fun tm' => ?_)) <;> (simp only [go_sem, Nat.reduceAdd, Nat.reduceSub, Nat.reduceMul, Nat.reduceLeDiff, Nat.reduceLT, Nat.reduceEqDiff, Int.reduceToNat, Int.reduceAdd, Int.reduceMul, Int.reduceSub, Int.reduceLT, Int.reduceLE, Int.reduceEq, Int.reduceNeg, Int.reduceBEq, Int.reduceBNe, ↓reduceIte, reduceCtorEq, h15, hl, ht1, ht9] <;> try simp (disch := omega) only [wrap_of])) | (refine hn _ _ ?_; clear hn hp Kn Kp) | (refine hp _ _ _ ?_; clear hn hp Kn Kp) | (refine awp_cond rfl (fun hb => ?_) (fun hb => ?_) <;> (try simp only [decide_eq_true_eq, decide_eq_false_iff_not, Bool.not_eq_true', Bool.not_eq_false', Bool.true_eq_false, Bool.false_eq_true, beq_iff_eq, bne_iff_ne, bne_eq_false_iff_eq, beq_eq_false_iff_ne, gt_iff_lt, ge_iff_le, Int.reduceEq, Int.reduceNe, Int.reduceLT, Int.reduceLE, ne_eq, not_true_eq_false, not_false_eq_true] at hb)) | ((first | refine awg_split (fun hb => ?_) (fun hb => ?_) | refine awsg_split (fun hb => ?_) (fun hb => ?_)) <;> have hb0 := hb <;> (try simp only [decide_eq_true_eq, decide_eq_false_iff_not, Bool.not_eq_true', Bool.not_eq_false', Bool.true_eq_false, Bool.false_eq_true, beq_iff_eq, bne_iff_ne, bne_eq_false_iff_eq, beq_eq_false_iff_ne, gt_iff_lt, ge_iff_le, Int.reduceEq, Int.reduceNe, Int.reduceLT, Int.reduceLE, ne_eq, not_true_eq_false, not_false_eq_true] at hb0) <;> (try simp only [beq_true, beq_false, Bool.not_eq_true', Bool.not_eq_false'] at hb) <;> (simp only [go_sem, Nat.reduceAdd, Nat.reduceSub, Nat.reduceMul, Nat.reduceLeDiff, Nat.reduceLT, Nat.reduceEqDiff, Int.reduceToNat, Int.reduceAdd, Int.reduceMul, Int.reduceSub, Int.reduceLT, Int.reduceLE, Int.reduceEq, Int.reduceNeg, Int.reduceBEq, Int.reduceBNe, ↓reduceIte, reduceCtorEq, h15, hl, ht1, ht9, hb, hb0] <;> try simp (disch := omega) only [wrap_of])) | (refine And.intro ?_ ?_) | refine awp_skip ?_ | refine awp_ret ?_ | refine awp_exit ?_ | refine awp_label ?_ | refine awloop_step ?_ | fail)
          ((try simp only [go_sem, Nat.reduceAdd, Nat.reduceSub, Nat.reduceMul, Nat.reduceLeDiff, Nat.reduceLT, Nat.reduceEqDiff, Int.reduceToNat, Int.reduceAdd, Int.reduceMul, Int.reduceSub, Int.reduceLT, Int.reduceLE, Int.reduceEq, Int.reduceNeg, Int.reduceBEq, Int.reduceBNe, ↓reduceIte, reduceCtorEq]); (first | refine ⟨_, rfl, _, rfl, Fin.pure0 0 ?_⟩ | refine ⟨_, rfl, _, rfl, Fin.pure 1 ?_⟩); simp only [AV.low, List.map_cons, List.map_nil, aOne, aev, List.getElem?_cons_zero, List.getElem?_cons_succ, Option.getD_some, List.length_append, List.length_cons, List.length_nil, Nat.lt_irrefl, if_false]; try rfl)
        · have ht : 1 ≤ times ∧ times ≤ 9 := by omega
          have i := fun H0 => Infer_run l e (by omega) (by omega) H0
          have v1 := fun H0 => value_run l st hst i0 i1 i2 i3 g0 g1 g2 g3 1 (by omega) e H0 hn15
          have vt := fun H0 => value_run l st hst i0 i1 i2 i3 g0 g1 g2 g3 times ht e H0 hn15
          have bt := valZ_bd (l := l) hst g0 g1 g2 g3 ht e
          have hbe := bnd_le hn15
          unfold fitsZ at bt
          cases hi : inferS l e with
          | error x =>
            have hx := inferS_err hi
            have hx0 : (x != 0) = true := by simp; omega
            simp only [hi, ansU] at i
            (refine ARun.intro Try.func6 rfl Try.call6 Try.ntmps6 Try.results6 ?_; simp only [List.length_cons, List.length_nil, List.length_map, Nat.reduceAdd, Nat.reduceSub, List.replicate_succ, List.replicate_zero, List.cons_append, List.nil_append])
            repeat' (first | refine awp_seq ?_ | refine awp_block ?_ | ((first | refine awp_region_k fun Kn Kp hn hp => ?_ | refine oge_intro (by assumption) ?_ | refine awe_intro (hh _) ?_ | refine awsf_intro (hh _) (fun hrun => ?_) | refine oge_intro (hh _) ?_ | refine awse_intro (hh _) (fun hrun => ?_) | refine pge_intro (hh _) (fun tm' => ?_) | refine awe_intro (hz _) ?_ | refine awsf_intro (hz _) (fun hrun => ?_) | refine oge_intro (hz _) ?_ | refine awse_intro (hz _) (fun hrun => ?_) | refine pge_intro (hz _) (fun tm' => ?_) | refine awe_intro (i _) ?_ | refine awsf_intro (i _) (fun hrun => ?_) | refine oge_intro (i _) ?_ | refine awse_intro (i _) (fun hrun => ?_) | refine pge_intro (i _) (fun tm' => ?_) | refine awe_intro (v1 _) ?_ | refine awsf_intro (v1 _) (fun hrun => ?_) | refine oge_intro (v1 _) ?_ | refine awse_intro (v1 _) (fun hrun => ?_) | refine pge_intro (v1 _) (fun tm' => ?_) | refine awe_intro (vt _) ?_ | refine awsf_intro (vt _) (fun hrun => ?_) | refine oge_intro (vt _) ?_ | refine awse_intro (vt _) (fun hrun => ?_) | refine pge_intro (vt _) (fun tm' => ?_)) <;> (simp only [go_sem, Nat.reduceAdd, Nat.reduceSub, Nat.reduceMul, Nat.reduceLeDiff, Nat.reduceLT, Nat.reduceEqDiff, Int.reduceToNat, Int.reduceAdd, Int.reduceMul, Int.reduceSub, Int.reduceLT, Int.reduceLE, Int.reduceEq, Int.reduceNeg, Int.reduceBEq, Int.reduceBNe, ↓reduceIte, reduceCtorEq, h15, hl, ht1, ht9, hx0] <;> try simp (disch := omega) only [wrap_of])) | (refine hn _ _ ?_; clear hn hp Kn Kp) | (refine hp _ _ _ ?_; clear hn hp Kn Kp) | (refine awp_cond rfl (fun hb => ?_) (fun hb => ?_) <;> (try simp only [decide_eq_true_eq, decide_eq_false_iff_not, Bool.not_eq_true', Bool.not_eq_false', Bool.true_eq_false, Bool.false_eq_true, beq_iff_eq, bne_iff_ne, bne_eq_false_iff_eq, beq_eq_false_iff_ne, gt_iff_lt, ge_iff_le, Int.reduceEq, Int.reduceNe, Int.reduceLT, Int.reduceLE, ne_eq, not_true_eq_false, not_false_eq_true] at hb)) | ((first | refine awg_split (fun hb => ?_) (fun hb => ?_) | refine awsg_split (fun hb => ?_) (fun hb => ?_)) <;> have hb0 := hb <;> (try simp only [decide_eq_true_eq, decide_eq_false_iff_not, Bool.not_eq_true', Bool.not_eq_false', Bool.true_eq_false, Bool.false_eq_true, beq_iff_eq, bne_iff_ne, bne_eq_false_iff_eq, beq_eq_false_iff_ne, gt_iff_lt, ge_iff_le, Int.reduceEq, Int.reduceNe, Int.reduceLT, Int.reduceLE, ne_eq, not_true_eq_false, not_false_eq_true] at hb0) <;> (try simp only [beq_true, beq_false, Bool.not_eq_true', Bool.not_eq_false'] at hb) <;> (simp only [go_sem, Nat.reduceAdd, Nat.reduceSub, Nat.reduceMul, Nat.reduceLeDiff, Nat.reduceLT, Nat.reduceEqDiff, Int.reduceToNat, Int.reduceAdd, Int.reduceMul, Int.reduceSub, Int.reduceLT, Int.reduceLE, Int.reduceEq, Int.reduceNeg, Int.reduceBEq, Int.reduceBNe, ↓reduceIte, reduceCtorEq, h15, hl, ht1, ht9, hx0, hb, hb0] <;> try simp (disch := omega) only [wrap_of])) | (refine And.intro ?_ ?_) | refine awp_skip ?_ | refine awp_ret ?_ | refine awp_exit ?_ | refine awp_label ?_ | refine awloop_step ?_ | fail)
            ((try simp only [go_sem, Nat.reduceAdd, Nat.reduceSub, Nat.reduceMul, Nat.reduceLeDiff, Nat.reduceLT, Nat.reduceEqDiff, Int.reduceToNat, Int.reduceAdd, Int.reduceMul, Int.reduceSub, Int.reduceLT, Int.reduceLE, Int.reduceEq, Int.reduceNeg, Int.reduceBEq, Int.reduceBNe, ↓reduceIte, reduceCtorEq]); (first | refine ⟨_, rfl, _, rfl, Fin.pure0 0 ?_⟩ | refine ⟨_, rfl, _, rfl, Fin.pure 1 ?_⟩); simp only [AV.low, List.map_cons, List.map_nil, aOne, aev, List.getElem?_cons_zero, List.getElem?_cons_succ, Option.getD_some, List.length_append, List.length_cons, List.length_nil, Nat.lt_irrefl, if_false]; try rfl)
          | ok u =>
            simp only [hi, ansU] at i
            rcases ha : valZ l st i0 i1 i2 i3 1 e with ⟨A, p⟩
            rcases hb' : valZ l st i0 i1 i2 i3 times e with ⟨B, q⟩
            rw [ha] at v1
            rw [hb'] at vt bt
            simp only at v1 vt bt
            cases p with
            | false =>
              (refine ARun.intro Try.func6 rfl Try.call6 Try.ntmps6 Try.results6 ?_; simp only [List.length_cons, List.length_nil, List.length_map, Nat.reduceAdd, Nat.reduceSub, List.replicate_succ, List.replicate_zero, List.cons_append, List.nil_append])
              repeat' (first | refine awp_seq ?_ | refine awp_block ?_ | ((first | refine awp_region_k fun Kn Kp hn hp => ?_ | refine oge_intro (by assumption) ?_ | refine awe_intro (hh _) ?_ | refine awsf_intro (hh _) (fun hrun => ?_) | refine oge_intro (hh _) ?_ | refine awse_intro (hh _) (fun hrun => ?_) | refine pge_intro (hh _) (fun tm' => ?_) | refine awe_intro (hz _) ?_ | refine awsf_intro (hz _) (fun hrun => ?_) | refine oge_intro (hz _) ?_ | refine awse_intro (hz _) (fun hrun => ?_) | refine pge_intro (hz _) (fun tm' => ?_) | refine awe_intro (i _) ?_ | refine awsf_intro (i _) (fun hrun => ?_) | refine oge_intro (i _) ?_ | refine awse_intro (i _) (fun hrun => ?_) | refine pge_intro (i _) (fun tm' => ?_) | refine awe_intro (v1 _) ?_ | refine awsf_intro (v1 _) (fun hrun => ?_) | refine oge_intro (v1 _) ?_ | refine awse_intro (v1 _) (fun hrun => ?_) | refine pge_intro (v1 _) (fun tm' => ?_) | refine awe_intro (vt _) ?_ | refine awsf_intro (vt _) (fun hrun => ?_) | refine oge_intro (vt _) ?_ | refine awse_intro (vt _) (fun hrun => ?_) | refine pge_intro (vt _) (fun tm' => ?_)) <;> (simp only [go_sem, Nat.reduceAdd, Nat.reduceSub, Nat.reduceMul, Nat.reduceLeDiff, Nat.reduceLT, Nat.reduceEqDiff, Int.reduceToNat, Int.reduceAdd, Int.reduceMul, Int.reduceSub, Int.reduceLT, Int.reduceLE, Int.reduceEq, Int.reduceNeg, Int.reduceBEq, Int.reduceBNe, ↓reduceIte, reduceCtorEq, h15, hl, ht1, ht9] <;> try simp (disch := omega) only [wrap_of])) | (refine hn _ _ ?_; clear hn hp Kn Kp) | (refine hp _ _ _ ?_; clear hn hp Kn Kp) | (refine awp_cond rfl (fun hb => ?_) (fun hb => ?_) <;> (try simp only [decide_eq_true_eq, decide_eq_false_iff_not, Bool.not_eq_true', Bool.not_eq_false', Bool.true_eq_false, Bool.false_eq_true, beq_iff_eq, bne_iff_ne, bne_eq_false_iff_eq, beq_eq_false_iff_ne, gt_iff_lt, ge_iff_le, Int.reduceEq, Int.reduceNe, Int.reduceLT, Int.reduceLE, ne_eq, not_true_eq_false, not_false_eq_true] at hb)) | ((first | refine awg_split (fun hb => ?_) (fun hb => ?_) | refine awsg_split (fun hb => ?_) (fun hb => ?_)) <;> have hb0 := hb <;> (try simp only [decide_eq_true_eq, decide_eq_false_iff_not, Bool.not_eq_true', Bool.not_eq_false', Bool.true_eq_false, Bool.false_eq_true, beq_iff_eq, bne_iff_ne, bne_eq_false_iff_eq, beq_eq_false_iff_ne, gt_iff_lt, ge_iff_le, Int.reduceEq, Int.reduceNe, Int.reduceLT, Int.reduceLE, ne_eq, not_true_eq_false, not_false_eq_true] at hb0) <;> (try simp only [beq_true, beq_false, Bool.not_eq_true', Bool.not_eq_false'] at hb) <;> (simp only [go_sem, Nat.reduceAdd, Nat.reduceSub, Nat.reduceMul, Nat.reduceLeDiff, Nat.reduceLT, Nat.reduceEqDiff, Int.reduceToNat, Int.reduceAdd, Int.reduceMul, Int.reduceSub, Int.reduceLT, Int.reduceLE, Int.reduceEq, Int.reduceNeg, Int.reduceBEq, Int.reduceBNe, ↓reduceIte, reduceCtorEq, h15, hl, ht1, ht9, hb, hb0] <;> try simp (disch := omega) only [wrap_of])) | (refine And.intro ?_ ?_) | refine awp_skip ?_ | refine awp_ret ?_ | refine awp_exit ?_ | refine awp_label ?_ | refine awloop_step ?_ | fail)
              ((try simp only [go_sem, Nat.reduceAdd, Nat.reduceSub, Nat.reduceMul, Nat.reduceLeDiff, Nat.reduceLT, Nat.reduceEqDiff, Int.reduceToNat, Int.reduceAdd, Int.reduceMul, Int.reduceSub, Int.reduceLT, Int.reduceLE, Int.reduceEq, Int.reduceNeg, Int.reduceBEq, Int.reduceBNe, ↓reduceIte, reduceCtorEq]); (first | refine ⟨_, rfl, _, rfl, Fin.pure0 0 ?_⟩ | refine ⟨_, rfl, _, rfl, Fin.pure 1 ?_⟩); simp only [AV.low, List.map_cons, List.map_nil, aOne, aev, List.getElem?_cons_zero, List.getElem?_cons_succ, Option.getD_some, List.length_append, List.length_cons, List.length_nil, Nat.lt_irrefl, if_false]; try rfl)
            | true =>
              cases q with
              | false =>
                (refine ARun.intro Try.func6 rfl Try.call6 Try.ntmps6 Try.results6 ?_; simp only [List.length_cons, List.length_nil, List.length_map, Nat.reduceAdd, Nat.reduceSub, List.replicate_succ, List.replicate_zero, List.cons_append, List.nil_append])
                repeat' (first | refine awp_seq ?_ | refine awp_block ?_ | ((first | refine awp_region_k fun Kn Kp hn hp => ?_ | refine oge_intro (by assumption) ?_ | refine awe_intro (hh _) ?_ | refine awsf_intro (hh _) (fun hrun => ?_) | refine oge_intro (hh _) ?_ | refine awse_intro (hh _) (fun hrun => ?_) | refine pge_intro (hh _) (fun tm' => ?_) | refine awe_intro (hz _) ?_ | refine awsf_intro (hz _) (fun hrun => ?_) | refine oge_intro (hz _) ?_ | refine awse_intro (hz _) (fun hrun => ?_) | refine pge_intro (hz _) (fun tm' => ?_) | refine awe_intro (i _) ?_ | refine awsf_intro (i _) (fun hrun => ?_) | refine oge_intro (i _) ?_ | refine awse_intro (i _) (fun hrun => ?_) | refine pge_intro (i _) (fun tm' => ?_) | refine awe_intro (v1 _) ?_ | refine awsf_intro (v1 _) (fun hrun => ?_) | refine oge_intro (v1 _) ?_ | refine awse_intro (v1 _) (fun hrun => ?_) | refine pge_intro (v1 _) (fun tm' => ?_) | refine awe_intro (vt _) ?_ | refine awsf_intro (vt _) (fun hrun => ?_) | refine oge_intro (vt _) ?_ | refine awse_intro (vt _) (fun hrun => ?_) | refine pge_intro (vt _) (fun tm' => ?_)) <;> (simp only [go_sem, Nat.reduceAdd, Nat.reduceSub, Nat.reduceMul, Nat.reduceLeDiff, Nat.reduceLT, Nat.reduceEqDiff, Int.reduceToNat, Int.reduceAdd, Int.reduceMul, Int.reduceSub, Int.reduceLT, Int.reduceLE, Int.reduceEq, Int.reduceNeg, Int.reduceBEq, Int.reduceBNe, ↓reduceIte, reduceCtorEq, h15, hl, ht1, ht9] <;> try simp (disch := omega) only [wrap_of])) | (refine hn _ _ ?_; clear hn hp Kn Kp) | (refine hp _ _ _ ?_; clear hn hp Kn Kp) | (refine awp_cond rfl (fun hb => ?_) (fun hb => ?_) <;> (try simp only [decide_eq_true_eq, decide_eq_false_iff_not, Bool.not_eq_true', Bool.not_eq_false', Bool.true_eq_false, Bool.false_eq_true, beq_iff_eq, bne_iff_ne, bne_eq_false_iff_eq, beq_eq_false_iff_ne, gt_iff_lt, ge_iff_le, Int.reduceEq, Int.reduceNe, Int.reduceLT, Int.reduceLE, ne_eq, not_true_eq_false, not_false_eq_true] at hb)) | ((first | refine awg_split (fun hb => ?_) (fun hb => ?_) | refine awsg_split (fun hb => ?_) (fun hb => ?_)) <;> have hb0 := hb <;> (try simp only [decide_eq_true_eq, decide_eq_false_iff_not, Bool.not_eq_true', Bool.not_eq_false', Bool.true_eq_false, Bool.false_eq_true, beq_iff_eq, bne_iff_ne, bne_eq_false_iff_eq, beq_eq_false_iff_ne, gt_iff_lt, ge_iff_le, Int.reduceEq, Int.reduceNe, Int.reduceLT, Int.reduceLE, ne_eq, not_true_eq_false, not_false_eq_true] at hb0) <;> (try simp only [beq_true, beq_false, Bool.not_eq_true', Bool.not_eq_false'] at hb) <;> (simp only [go_sem, Nat.reduceAdd, Nat.reduceSub, Nat.reduceMul, Nat.reduceLeDiff, Nat.reduceLT, Nat.reduceEqDiff, Int.reduceToNat, Int.reduceAdd, Int.reduceMul, Int.reduceSub, Int.reduceLT, Int.reduceLE, Int.reduceEq, Int.reduceNeg, Int.reduceBEq, Int.reduceBNe, ↓reduceIte, reduceCtorEq, h15, hl, ht1, ht9, hb, hb0] <;> try simp (disch := omega) only [wrap_of])) | (refine And.intro ?_ ?_) | refine awp_skip ?_ | refine awp_ret ?_ | refine awp_exit ?_ | refine awp_label ?_ | refine awloop_step ?_ | fail)
                ((try simp only [go_sem, Nat.reduceAdd, Nat.reduceSub, Nat.reduceMul, Nat.reduceLeDiff, Nat.reduceLT, Nat.reduceEqDiff, Int.reduceToNat, Int.reduceAdd, Int.reduceMul, Int.reduceSub, Int.reduceLT, Int.reduceLE, Int.reduceEq, Int.reduceNeg, Int.reduceBEq, Int.reduceBNe, ↓reduceIte, reduceCtorEq]); (first | refine ⟨_, rfl, _, rfl, Fin.pure0 0 ?_⟩ | refine ⟨_, rfl, _, rfl, Fin.pure 1 ?_⟩); simp only [AV.low, List.map_cons, List.map_nil, aOne, aev, List.getElem?_cons_zero, List.getElem?_cons_succ, Option.getD_some, List.length_append, List.length_cons, List.length_nil, Nat.lt_irrefl, if_false]; try rfl)
              | true =>
                obtain ⟨us, hks, _, hinf⟩ := inferS_ok hi
                have hlaw := scale_law hks (ksL_get hks) (st := st) (i0 := i0) (i1 := i1) (i2 := i2) (i3 := i3) (t := times) (by omega) e u hinf (by rw [ha]) (by rw [hb'])
                rw [ha, hb'] at hlaw
                simp only at hlaw
                obtain ⟨hu0, hlaw⟩ := hlaw
                have hok := inferS_okU hi
                have hu4 : u.p ≤ 4 := hok.2.1
                clear bt
                have hwm : IntKind.i64.wrap (times ^ u.p.toNat * A) = B := by
                  rw [← hlaw]
                  have bt := valZ_bd (l := l) hst g0 g1 g2 g3 ht e
                  rw [hb'] at bt
                  unfold fitsZ at bt
                  simp only at bt
                  exact wrap_of (by omega) (by omega)
                (refine ARun.intro Try.func6 rfl Try.call6 Try.ntmps6 Try.results6 ?_; simp only [List.length_cons, List.length_nil, List.length_map, Nat.reduceAdd, Nat.reduceSub, List.replicate_succ, List.replicate_zero, List.cons_append, List.nil_append])
                repeat' (first | refine awp_seq ?_ | refine awp_block ?_ | ((first | refine awp_region_k fun Kn Kp hn hp => ?_ | refine oge_intro (by assumption) ?_ | refine awe_intro (hh _) ?_ | refine awsf_intro (hh _) (fun hrun => ?_) | refine oge_intro (hh _) ?_ | refine awse_intro (hh _) (fun hrun => ?_) | refine pge_intro (hh _) (fun tm' => ?_) | refine awe_intro (hz _) ?_ | refine awsf_intro (hz _) (fun hrun => ?_) | refine oge_intro (hz _) ?_ | refine awse_intro (hz _) (fun hrun => ?_) | refine pge_intro (hz _) (fun tm' => ?_) | refine awe_intro (i _) ?_ | refine awsf_intro (i _) (fun hrun => ?_) | refine oge_intro (i _) ?_ | refine awse_intro (i _) (fun hrun => ?_) | refine pge_intro (i _) (fun tm' => ?_) | refine awe_intro (v1 _) ?_ | refine awsf_intro (v1 _) (fun hrun => ?_) | refine oge_intro (v1 _) ?_ | refine awse_intro (v1 _) (fun hrun => ?_) | refine pge_intro (v1 _) (fun tm' => ?_) | refine awe_intro (vt _) ?_ | refine awsf_intro (vt _) (fun hrun => ?_) | refine oge_intro (vt _) ?_ | refine awse_intro (vt _) (fun hrun => ?_) | refine pge_intro (vt _) (fun tm' => ?_)) <;> (simp only [go_sem, Nat.reduceAdd, Nat.reduceSub, Nat.reduceMul, Nat.reduceLeDiff, Nat.reduceLT, Nat.reduceEqDiff, Int.reduceToNat, Int.reduceAdd, Int.reduceMul, Int.reduceSub, Int.reduceLT, Int.reduceLE, Int.reduceEq, Int.reduceNeg, Int.reduceBEq, Int.reduceBNe, ↓reduceIte, reduceCtorEq, h15, hl, ht1, ht9] <;> try simp (disch := omega) only [wrap_of])) | (refine hn _ _ ?_; clear hn hp Kn Kp) | (refine hp _ _ _ ?_; clear hn hp Kn Kp) | (refine awp_cond rfl (fun hb => ?_) (fun hb => ?_) <;> (try simp only [decide_eq_true_eq, decide_eq_false_iff_not, Bool.not_eq_true', Bool.not_eq_false', Bool.true_eq_false, Bool.false_eq_true, beq_iff_eq, bne_iff_ne, bne_eq_false_iff_eq, beq_eq_false_iff_ne, gt_iff_lt, ge_iff_le, Int.reduceEq, Int.reduceNe, Int.reduceLT, Int.reduceLE, ne_eq, not_true_eq_false, not_false_eq_true] at hb)) | ((first | refine awg_split (fun hb => ?_) (fun hb => ?_) | refine awsg_split (fun hb => ?_) (fun hb => ?_)) <;> have hb0 := hb <;> (try simp only [decide_eq_true_eq, decide_eq_false_iff_not, Bool.not_eq_true', Bool.not_eq_false', Bool.true_eq_false, Bool.false_eq_true, beq_iff_eq, bne_iff_ne, bne_eq_false_iff_eq, beq_eq_false_iff_ne, gt_iff_lt, ge_iff_le, Int.reduceEq, Int.reduceNe, Int.reduceLT, Int.reduceLE, ne_eq, not_true_eq_false, not_false_eq_true] at hb0) <;> (try simp only [beq_true, beq_false, Bool.not_eq_true', Bool.not_eq_false'] at hb) <;> (simp only [go_sem, Nat.reduceAdd, Nat.reduceSub, Nat.reduceMul, Nat.reduceLeDiff, Nat.reduceLT, Nat.reduceEqDiff, Int.reduceToNat, Int.reduceAdd, Int.reduceMul, Int.reduceSub, Int.reduceLT, Int.reduceLE, Int.reduceEq, Int.reduceNeg, Int.reduceBEq, Int.reduceBNe, ↓reduceIte, reduceCtorEq, h15, hl, ht1, ht9, hb, hb0] <;> try simp (disch := omega) only [wrap_of])) | (refine And.intro ?_ ?_) | refine awp_skip ?_ | refine awp_ret ?_ | refine awp_exit ?_ | refine awp_label ?_ | refine awloop_step ?_ | fail)
                refine awp_loop_ind (σ := Nat) (fun s => u.p.toNat - s) (fun s => s ≤ u.p.toNat)
                  (fun s => (.any :: .any :: .any :: .any :: .i times :: .any :: .any :: .any :: .any :: .any :: .any :: .b true :: .p (H0.length + 2) 0 :: .any :: .i A :: .any :: .i B :: .any :: .i (times ^ s) :: .i s :: .any :: .any :: .any :: .any :: .any :: .any :: .any :: .any :: .any :: .any :: .any :: .any :: .any :: .any :: .any :: .any :: .any :: .any :: .any :: .any :: .any :: .any :: .any :: .any :: .any :: .any :: .any :: .any :: .any :: .any :: .any :: .any :: .any :: .any :: .any :: .any :: .any :: .any :: .any :: .any :: .any :: .any :: .any :: .any :: .any :: .any :: .any :: .any :: .any :: .any :: .any :: .any :: .any :: .any :: .any :: .any :: .any :: .any :: .any :: .any :: .any :: .any :: .any :: .any :: .any :: .any :: .any :: .any :: .any :: .any :: .any :: .any :: .any :: .any :: []))
                  (fun s => H0 ++ [.cells 46 [.pv (u8 i0), .pv (u8 i1), .pv (u8 i2), .pv (u8 i3)], .cells 29 ((cE e).map AV.pv), .cells 34 ((cU u).map AV.pv)]) 0
                  (Nat.zero_le _) (by (refine Wk.fgt ?_; simp only [Fgt, List.length_nil, List.set_cons_zero, List.set_cons_succ, Int.natCast_zero, Int.cast_ofNat_Int, Int.ofNat_eq_natCast, true_or, or_true, true_and, and_true, and_self, eq_self]); simp) ?_
                rintro k hk
                by_cases hlt : (k : Int) < u.p
                · have hw := pow_rng ht (k := k + 1) (by omega)
                  have hw2 : IntKind.i64.wrap (times ^ k * times) = times ^ (k + 1) := by
                    rw [show times ^ k * times = times ^ (k + 1) from (Int.pow_succ _ _).symm]
                    exact (fun (z : Int) (h : 1 ≤ z ∧ z ≤ 59049) => wrap_of (n := z) (by omega) (by omega)) _ hw
                  repeat' (first | refine awp_seq ?_ | refine awp_block ?_ | ((first | refine awp_region_k fun Kn Kp hn hp => ?_ | refine oge_intro (by assumption) ?_) <;> (simp only [go_sem, Nat.reduceAdd, Nat.reduceSub, Nat.reduceMul, Nat.reduceLeDiff, Nat.reduceLT, Nat.reduceEqDiff, Int.reduceToNat, Int.reduceAdd, Int.reduceMul, Int.reduceSub, Int.reduceLT, Int.reduceLE, Int.reduceEq, Int.reduceNeg, Int.reduceBEq, Int.reduceBNe, ↓reduceIte, reduceCtorEq, hlt, hw2] <;> try simp (disch := omega) only [wrap_of])) | (refine hn _ _ ?_; clear hn hp Kn Kp) | (refine hp _ _ _ ?_; clear hn hp Kn Kp) | (refine awp_cond rfl (fun hb => ?_) (fun hb => ?_) <;> (try simp only [decide_eq_true_eq, decide_eq_false_iff_not, Bool.not_eq_true', Bool.not_eq_false', Bool.true_eq_false, Bool.false_eq_true, beq_iff_eq, bne_iff_ne, bne_eq_false_iff_eq, beq_eq_false_iff_ne, gt_iff_lt, ge_iff_le, Int.reduceEq, Int.reduceNe, Int.reduceLT, Int.reduceLE, ne_eq, not_true_eq_false, not_false_eq_true] at hb)) | ((first | refine awg_split (fun hb => ?_) (fun hb => ?_) | refine awsg_split (fun hb => ?_) (fun hb => ?_)) <;> have hb0 := hb <;> (try simp only [decide_eq_true_eq, decide_eq_false_iff_not, Bool.not_eq_true', Bool.not_eq_false', Bool.true_eq_false, Bool.false_eq_true, beq_iff_eq, bne_iff_ne, bne_eq_false_iff_eq, beq_eq_false_iff_ne, gt_iff_lt, ge_iff_le, Int.reduceEq, Int.reduceNe, Int.reduceLT, Int.reduceLE, ne_eq, not_true_eq_false, not_false_eq_true] at hb0) <;> (try simp only [beq_true, beq_false, Bool.not_eq_true', Bool.not_eq_false'] at hb) <;> (simp only [go_sem, Nat.reduceAdd, Nat.reduceSub, Nat.reduceMul, Nat.reduceLeDiff, Nat.reduceLT, Nat.reduceEqDiff, Int.reduceToNat, Int.reduceAdd, Int.reduceMul, Int.reduceSub, Int.reduceLT, Int.reduceLE, Int.reduceEq, Int.reduceNeg, Int.reduceBEq, Int.reduceBNe, ↓reduceIte, reduceCtorEq, hlt, hw2, hb, hb0] <;> try simp (disch := omega) only [wrap_of])) | (refine And.intro ?_ ?_) | refine awp_skip ?_ | refine awp_ret ?_ | refine awp_exit ?_ | refine awp_label ?_ | refine awloop_step ?_ | fail)
                  refine ⟨k + 1, by omega, by omega, ?_⟩
                  (refine Wk.fgt ?_; simp only [Fgt, List.length_nil, List.set_cons_zero, List.set_cons_succ, Int.natCast_zero, Int.cast_ofNat_Int, Int.ofNat_eq_natCast, true_or, or_true, true_and, and_true, and_self, eq_self])
                  simp [wrap_of (n := (k : Int) + 1) (by omega) (by omega)]
                · have hku : k = u.p.toNat := by omega
                  subst hku
                  repeat' (first | refine awp_seq ?_ | refine awp_block ?_ | ((first | refine awp_region_k fun Kn Kp hn hp => ?_ | refine oge_intro (by assumption) ?_) <;> (simp only [go_sem, Nat.reduceAdd, Nat.reduceSub, Nat.reduceMul, Nat.reduceLeDiff, Nat.reduceLT, Nat.reduceEqDiff, Int.reduceToNat, Int.reduceAdd, Int.reduceMul, Int.reduceSub, Int.reduceLT, Int.reduceLE, Int.reduceEq, Int.reduceNeg, Int.reduceBEq, Int.reduceBNe, ↓reduceIte, reduceCtorEq, hlt, hwm, hu0] <;> try simp (disch := omega) only [wrap_of])) | (refine hn _ _ ?_; clear hn hp Kn Kp) | (refine hp _ _ _ ?_; clear hn hp Kn Kp) | (refine awp_cond rfl (fun hb => ?_) (fun hb => ?_) <;> (try simp only [decide_eq_true_eq, decide_eq_false_iff_not, Bool.not_eq_true', Bool.not_eq_false', Bool.true_eq_false, Bool.false_eq_true, beq_iff_eq, bne_iff_ne, bne_eq_false_iff_eq, beq_eq_false_iff_ne, gt_iff_lt, ge_iff_le, Int.reduceEq, Int.reduceNe, Int.reduceLT, Int.reduceLE, ne_eq, not_true_eq_false, not_false_eq_true] at hb)) | ((first | refine awg_split (fun hb => ?_) (fun hb => ?_) | refine awsg_split (fun hb => ?_) (fun hb => ?_)) <;> have hb0 := hb <;> (try simp only [decide_eq_true_eq, decide_eq_false_iff_not, Bool.not_eq_true', Bool.not_eq_false', Bool.true_eq_false, Bool.false_eq_true, beq_iff_eq, bne_iff_ne, bne_eq_false_iff_eq, beq_eq_false_iff_ne, gt_iff_lt, ge_iff_le, Int.reduceEq, Int.reduceNe, Int.reduceLT, Int.reduceLE, ne_eq, not_true_eq_false, not_false_eq_true] at hb0) <;> (try simp only [beq_true, beq_false, Bool.not_eq_true', Bool.not_eq_false'] at hb) <;> (simp only [go_sem, Nat.reduceAdd, Nat.reduceSub, Nat.reduceMul, Nat.reduceLeDiff, Nat.reduceLT, Nat.reduceEqDiff, Int.reduceToNat, Int.reduceAdd, Int.reduceMul, Int.reduceSub, Int.reduceLT, Int.reduceLE, Int.reduceEq, Int.reduceNeg, Int.reduceBEq, Int.reduceBNe, ↓reduceIte, reduceCtorEq, hlt, hwm, hu0, hb, hb0] <;> try simp (disch := omega) only [wrap_of])) | (refine And.intro ?_ ?_) | refine awp_skip ?_ | refine awp_ret ?_ | refine awp_exit ?_ | refine awp_label ?_ | refine awloop_step ?_ | fail)
                  ((try simp only [go_sem, Nat.reduceAdd, Nat.reduceSub, Nat.reduceMul, Nat.reduceLeDiff, Nat.reduceLT, Nat.reduceEqDiff, Int.reduceToNat, Int.reduceAdd, Int.reduceMul, Int.reduceSub, Int.reduceLT, Int.reduceLE, Int.reduceEq, Int.reduceNeg, Int.reduceBEq, Int.reduceBNe, ↓reduceIte, reduceCtorEq]); (first | refine ⟨_, rfl, _, rfl, Fin.pure0 0 ?_⟩ | refine ⟨_, rfl, _, rfl, Fin.pure 1 ?_⟩); simp only [AV.low, List.map_cons, List.map_nil, aOne, aev, List.getElem?_cons_zero, List.getElem?_cons_succ, Option.getD_some, List.length_append, List.length_cons, List.length_nil, Nat.lt_irrefl, if_false]; try rfl)
end Go.Proofs.Ytkchihkmhojdnaa.Y

set_option maxRecDepth 20000
set_option linter.unusedVariables false
set_option linter.unusedSimpArgs false
namespace Go.Proofs.Ytkchihkmhojdnaa.Y
open Go.Proofs.Ytkchihkmhojdnaa.AL Go.Proofs Go
theorem u8wf {n : Int} (h : (Lit.int .u8 n).wf = true) : 0 ≤ n := by
  have : 0 ≤ n ∧ n ≤ 255 := by simpa [Lit.wf, IntKind.min, IntKind.max, IntKind.signed, IntKind.bits] using h
  exact this.1
theorem rdU8s (n : Nat) : Rd Try.prog bk n 45 (fun l : List Int => [.rs 1 (l.map fun m => [.sc (.int .u8 m)])]) (fun l => sumM (fun _ => 1) l + 1) (fun l => ∀ a ∈ l, (Lit.int .u8 a).wf = true) :=
  Rd.le (Rd.slice bulk (n := n) Try.underlying45 (by kernel_rfl) (by decide) (Rd.int bulk (n := n) Try.underlying5) (fun _ => rfl)) (Nat.le_succ n)
abbrev U84 := Int × Int × Int × Int
theorem rdU84 : ∀ n, Rd Try.prog bk n 46 (fun a : U84 => [.sc (.int .u8 a.1), .sc (.int .u8 a.2.1), .sc (.int .u8 a.2.2.1), .sc (.int .u8 a.2.2.2)]) (fun _ => 1) (fun a => 0 ≤ a.1 ∧ 0 ≤ a.2.1 ∧ 0 ≤ a.2.2.1 ∧ 0 ≤ a.2.2.2) := by
  intro n
  cases n with
  | zero => exact Rd.zero
  | succ n =>
    intro H e w sp hd fuel cs x hn h hlt
    obtain ⟨xs, m, hm, hc, hx, hb, hf, hl⟩ := trod_items bulk Try.underlying46 hn h hlt
    rw [show Try.prog.cellsOf 46 = 4 from by kernel_rfl] at hc
    obtain ⟨x0, x1, x2, x3, rfl⟩ : ∃ x0 x1 x2 x3, xs = [x0, x1, x2, x3] := by
      match xs, hx with | [x0, x1, x2, x3], _ => exact ⟨x0, x1, x2, x3, rfl⟩
    obtain ⟨c0, c1, c2, c3, rfl⟩ : ∃ c0 c1 c2 c3, cs = [c0, c1, c2, c3] := by
      match cs, hc with | [c0, c1, c2, c3], _ => exact ⟨c0, c1, c2, c3, rfl⟩
    simp only [List.map_cons, List.map_nil, bulk.lcons, bulk.lnil] at hb
    have f0 := hf 0 (by omega)
    have f1 := hf 1 (by omega)
    have f2 := hf 2 (by omega)
    have f3 := hf 3 (by omega)
    simp only [show Try.prog.cellsOf 5 = 1 from by kernel_rfl, Nat.reduceMul, List.drop_zero, List.drop_succ_cons, List.take_succ_cons, List.take_zero, List.getElem?_cons_zero, List.getElem?_cons_succ] at f0 f1 f2 f3
    obtain ⟨a0, r0, m0, p0⟩ := Rd.int bulk (n := n) Try.underlying5 hm f0 (hl x0 (by simp))
    obtain ⟨a1, r1, m1, p1⟩ := Rd.int bulk (n := n) Try.underlying5 hm f1 (hl x1 (by simp))
    obtain ⟨a2, r2, m2, p2⟩ := Rd.int bulk (n := n) Try.underlying5 hm f2 (hl x2 (by simp))
    obtain ⟨a3, r3, m3, p3⟩ := Rd.int bulk (n := n) Try.underlying5 hm f3 (hl x3 (by simp))
    dsimp only at m0 m1 m2 m3
    exact ⟨(a0, a1, a2, a3), r0.append (r1.append (r2.append r3)), by dsimp only; omega, u8wf p0, u8wf p1, u8wf p2, u8wf p3⟩
end Go.Proofs.Ytkchihkmhojdnaa.Y
