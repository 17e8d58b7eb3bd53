/- Part 6 of the proofs of seat Ytiifbdkedainnaa: what the texts behind it lean on (abstract memory, walks of functions, plain laws). -/
import Derived.Test.YtiifbdkedainnaaM5

set_option maxRecDepth 20000
set_option linter.unusedVariables false
set_option linter.unusedSimpArgs false
namespace Go.Proofs.Ytiifbdkedainnaa.Y
open Go.Proofs.Ytiifbdkedainnaa.AL Go.Proofs Go
attribute [local irreducible] AWP AWL AWG AWR AWE AWX AWO AWSeq AWSG AWSR AWSO AWSE AWSF GoodP OGW OGR OGE OGX PGW PGR PGE Wk AWLoop AWPD AWLD
theorem rdE : ∀ n, Rd Try.prog bk n 71 encE nodes (fun _ => True) := by
  intro n
  induction n with
  | zero => exact Rd.zero
  | succ n ih =>
    intro H e w sp hd fuel cs x hn h hlt
    obtain ⟨xs, m, hm, hc, hx, hb, hf, hl⟩ := trod_fields bulk Try.underlying71 hn h hlt
    rw [show Try.prog.cellsOf 71 = 4 from by kernel_rfl] at hc
    obtain ⟨x0, x1, x2, x3, rfl⟩ : ∃ x0 x1 x2 x3, xs = [x0, x1, x2, x3] := by
      match xs, hx with | [x0, x1, x2, x3], _ => exact ⟨x0, x1, x2, x3, rfl⟩
    obtain ⟨c0, c1, c2, c3, rfl⟩ : ∃ c0 c1 c2 c3, cs = [c0, c1, c2, c3] := by
      match cs, hc with | [c0, c1, c2, c3], _ => exact ⟨c0, c1, c2, c3, rfl⟩
    simp only [List.map_cons, List.map_nil, bulk.lcons, bulk.lnil] at hb
    have f0 := hf 0 _ rfl
    have f1 := hf 1 _ rfl
    have f2 := hf 2 _ rfl
    have f3 := hf 3 _ rfl
    simp only [show Try.prog.cellsOf 69 = 1 from by kernel_rfl, show Try.prog.cellsOf 3 = 1 from by kernel_rfl, List.drop_zero, List.drop_succ_cons, List.take_succ_cons, List.take_zero, List.getElem?_cons_zero, List.getElem?_cons_succ] at f0 f1 f2 f3
    obtain ⟨a0, r0, m0, p0⟩ := (Rd.int bulk (n := n) Try.underlying3) hm f0 (hl x0 (by simp))
    obtain ⟨a1, r1, m1, p1⟩ := (Rd.int bulk (n := n) Try.underlying3) hm f1 (hl x1 (by simp))
    obtain ⟨a2, r2, m2, p2⟩ := (Rd.int bulk (n := n) Try.underlying3) hm f2 (hl x2 (by simp))
    obtain ⟨a3, r3, m3, p3⟩ := (Rd.le (Rd.slice bulk (n := n) Try.underlying69 (by kernel_rfl) (by decide) ih encE_len) (Nat.le_succ n)) hm f3 (hl x3 (by simp))
    (try dsimp only at m0); (try dsimp only at m1); (try dsimp only at m2); (try dsimp only at m3)
    refine ⟨.mk a0 a1 a2 a3, ?_, ?_, trivial⟩
    · rw [encE_eq]; exact r0.append (r1.append (r2.append (r3)))
    · rw [nodes_eq]; simp only [Ex.kids, nodesL_sum]; omega
theorem rdS : ∀ n, Rd Try.prog bk n 73 encS wS (fun _ => True) := by
  intro n
  induction n with
  | zero => exact Rd.zero
  | succ n ih =>
    intro H e w sp hd fuel cs x hn h hlt
    obtain ⟨xs, m, hm, hc, hx, hb, hf, hl⟩ := trod_fields bulk Try.underlying73 hn h hlt
    rw [show Try.prog.cellsOf 73 = 13 from by kernel_rfl] at hc
    obtain ⟨x0, x1, x2, x3, x4, x5, x6, rfl⟩ : ∃ x0 x1 x2 x3 x4 x5 x6, xs = [x0, x1, x2, x3, x4, x5, x6] := by
      match xs, hx with | [x0, x1, x2, x3, x4, x5, x6], _ => exact ⟨x0, x1, x2, x3, x4, x5, x6, rfl⟩
    obtain ⟨c0, c1, c2, c3, c4, c5, c6, c7, c8, c9, c10, c11, c12, rfl⟩ : ∃ c0 c1 c2 c3 c4 c5 c6 c7 c8 c9 c10 c11 c12, cs = [c0, c1, c2, c3, c4, c5, c6, c7, c8, c9, c10, c11, c12] := by
      match cs, hc with | [c0, c1, c2, c3, c4, c5, c6, c7, c8, c9, c10, c11, c12], _ => exact ⟨c0, c1, c2, c3, c4, c5, c6, c7, c8, c9, c10, c11, c12, rfl⟩
    simp only [List.map_cons, List.map_nil, bulk.lcons, bulk.lnil] at hb
    have f0 := hf 0 _ rfl
    have f1 := hf 1 _ rfl
    have f2 := hf 2 _ rfl
    have f3 := hf 3 _ rfl
    have f4 := hf 4 _ rfl
    have f5 := hf 5 _ rfl
    have f6 := hf 6 _ rfl
    simp only [show Try.prog.cellsOf 23 = 1 from by kernel_rfl, show Try.prog.cellsOf 71 = 4 from by kernel_rfl, show Try.prog.cellsOf 3 = 1 from by kernel_rfl, List.drop_zero, List.drop_succ_cons, List.take_succ_cons, List.take_zero, List.getElem?_cons_zero, List.getElem?_cons_succ] at f0 f1 f2 f3 f4 f5 f6
    obtain ⟨a0, r0, m0, p0⟩ := (Rd.int bulk (n := n) Try.underlying3) hm f0 (hl x0 (by simp))
    obtain ⟨a1, r1, m1, p1⟩ := (Rd.int bulk (n := n) Try.underlying3) hm f1 (hl x1 (by simp))
    obtain ⟨a2, r2, m2, p2⟩ := (Rd.int bulk (n := n) Try.underlying3) hm f2 (hl x2 (by simp))
    obtain ⟨a3, r3, m3, p3⟩ := (rdE n) hm f3 (hl x3 (by simp))
    obtain ⟨a4, r4, m4, p4⟩ := (rdE n) hm f4 (hl x4 (by simp))
    obtain ⟨a5, r5, m5, p5⟩ := (Rd.le (Rd.slice bulk (n := n) Try.underlying23 (by kernel_rfl) (by decide) ih encS_len) (Nat.le_succ n)) hm f5 (hl x5 (by simp))
    obtain ⟨a6, r6, m6, p6⟩ := (Rd.le (Rd.slice bulk (n := n) Try.underlying23 (by kernel_rfl) (by decide) ih encS_len) (Nat.le_succ n)) hm f6 (hl x6 (by simp))
    (try dsimp only at m0); (try dsimp only at m1); (try dsimp only at m2); (try dsimp only at m3); (try dsimp only at m4); (try dsimp only at m5); (try dsimp only at m6)
    refine ⟨.mk a0 a1 a2 a3 a4 a5 a6, ?_, ?_, trivial⟩
    · rw [encS_eq]; rw [encE_eq] at r3 r4; exact r0.append (r1.append (r2.append (r3.append (r4.append (r5.append (r6))))))
    · rw [wS_eq]; simp only [St.a, St.b, St.thn, St.els, wSL_sum]; omega
theorem rdV : ∀ n, Rd Try.prog bk n 55 encV wV (fun _ => True) := by
  intro n
  induction n with
  | zero => exact Rd.zero
  | succ n ih =>
    intro H e w sp hd fuel cs x hn h hlt
    obtain ⟨xs, m, hm, hc, hx, hb, hf, hl⟩ := trod_fields bulk Try.underlying55 hn h hlt
    rw [show Try.prog.cellsOf 55 = 5 from by kernel_rfl] at hc
    obtain ⟨x0, x1, x2, x3, x4, rfl⟩ : ∃ x0 x1 x2 x3 x4, xs = [x0, x1, x2, x3, x4] := by
      match xs, hx with | [x0, x1, x2, x3, x4], _ => exact ⟨x0, x1, x2, x3, x4, rfl⟩
    obtain ⟨c0, c1, c2, c3, c4, rfl⟩ : ∃ c0 c1 c2 c3 c4, cs = [c0, c1, c2, c3, c4] := by
      match cs, hc with | [c0, c1, c2, c3, c4], _ => exact ⟨c0, c1, c2, c3, c4, rfl⟩
    simp only [List.map_cons, List.map_nil, bulk.lcons, bulk.lnil] at hb
    have f0 := hf 0 _ rfl
    have f1 := hf 1 _ rfl
    have f2 := hf 2 _ rfl
    have f3 := hf 3 _ rfl
    have f4 := hf 4 _ rfl
    simp only [show Try.prog.cellsOf 3 = 1 from by kernel_rfl, show Try.prog.cellsOf 9 = 1 from by kernel_rfl, List.drop_zero, List.drop_succ_cons, List.take_succ_cons, List.take_zero, List.getElem?_cons_zero, List.getElem?_cons_succ] at f0 f1 f2 f3 f4
    obtain ⟨a0, r0, m0, p0⟩ := (Rd.str bulk (n := n) Try.underlying9) hm f0 (hl x0 (by simp))
    obtain ⟨a1, r1, m1, p1⟩ := (Rd.int bulk (n := n) Try.underlying3) hm f1 (hl x1 (by simp))
    obtain ⟨a2, r2, m2, p2⟩ := (Rd.int bulk (n := n) Try.underlying3) hm f2 (hl x2 (by simp))
    obtain ⟨a3, r3, m3, p3⟩ := (Rd.int bulk (n := n) Try.underlying3) hm f3 (hl x3 (by simp))
    obtain ⟨a4, r4, m4, p4⟩ := (Rd.int bulk (n := n) Try.underlying3) hm f4 (hl x4 (by simp))
    (try dsimp only at m0); (try dsimp only at m1); (try dsimp only at m2); (try dsimp only at m3); (try dsimp only at m4)
    refine ⟨⟨a0, a1, a2, a3, a4⟩, ?_, ?_, trivial⟩
    · exact r0.append (r1.append (r2.append (r3.append (r4))))
    · simp only [wV]; omega
end Go.Proofs.Ytiifbdkedainnaa.Y

set_option maxRecDepth 20000
set_option linter.unusedVariables false
set_option linter.unusedSimpArgs false
namespace Go.Proofs.Ytiifbdkedainnaa.Y
open Go.Proofs.Ytiifbdkedainnaa.AL Go.Proofs Go
attribute [local irreducible] AWP AWL AWG AWR AWE AWX AWO AWSeq AWSG AWSR AWSO AWSE AWSF GoodP OGW OGR OGE OGX PGW PGR PGE Wk AWLoop AWPD AWLD
abbrev On5 := List St × List St × List St × List St × List St
def encOn (o : On5) : List PV := [.rs 13 (o.1.map encS), .rs 13 (o.2.1.map encS), .rs 13 (o.2.2.1.map encS), .rs 13 (o.2.2.2.1.map encS), .rs 13 (o.2.2.2.2.map encS)]
def wOn (o : On5) : Nat := wSL o.1 + wSL o.2.1 + wSL o.2.2.1 + wSL o.2.2.2.1 + wSL o.2.2.2.2
theorem rdSs (n : Nat) : Rd Try.prog bk n 23 (fun l : List St => [.rs 13 (l.map encS)]) (fun l => sumM wS l + 1) (fun l => ∀ a ∈ l, True) :=
  Rd.le (Rd.slice bulk (n := n) Try.underlying23 (by kernel_rfl) (by decide) (rdS n) encS_len) (Nat.le_succ n)
theorem rdVs (n : Nat) : Rd Try.prog bk n 22 (fun l : List Vr => [.rs 5 (l.map encV)]) (fun l => sumM wV l + 1) (fun l => ∀ a ∈ l, True) :=
  Rd.le (Rd.slice bulk (n := n) Try.underlying22 (by kernel_rfl) (by decide) (rdV n) (fun _ => rfl)) (Nat.le_succ n)
theorem rdOn : ∀ n, Rd Try.prog bk n 24 encOn wOn (fun _ => True) := by
  intro n
  cases n with
  | zero => exact Rd.zero
  | succ n =>
    intro H e w sp hd fuel cs x hn h hlt
    obtain ⟨xs, m, hm, hc, hx, hb, hf, hl⟩ := trod_items bulk Try.underlying24 hn h hlt
    rw [show Try.prog.cellsOf 24 = 5 from by kernel_rfl] at hc
    obtain ⟨x0, x1, x2, x3, x4, rfl⟩ : ∃ x0 x1 x2 x3 x4, xs = [x0, x1, x2, x3, x4] := by
      match xs, hx with | [x0, x1, x2, x3, x4], _ => exact ⟨x0, x1, x2, x3, x4, rfl⟩
    obtain ⟨c0, c1, c2, c3, c4, rfl⟩ : ∃ c0 c1 c2 c3 c4, cs = [c0, c1, c2, c3, c4] := by
      match cs, hc with | [c0, c1, c2, c3, c4], _ => exact ⟨c0, c1, c2, c3, c4, rfl⟩
    simp only [List.map_cons, List.map_nil, bulk.lcons, bulk.lnil] at hb
    have f0 := hf 0 (by omega)
    have f1 := hf 1 (by omega)
    have f2 := hf 2 (by omega)
    have f3 := hf 3 (by omega)
    have f4 := hf 4 (by omega)
    simp only [show Try.prog.cellsOf 23 = 1 from by kernel_rfl, Nat.reduceMul, List.drop_zero, List.drop_succ_cons, List.take_succ_cons, List.take_zero, List.getElem?_cons_zero, List.getElem?_cons_succ] at f0 f1 f2 f3 f4
    obtain ⟨a0, r0, m0, p0⟩ := rdSs n hm f0 (hl x0 (by simp))
    obtain ⟨a1, r1, m1, p1⟩ := rdSs n hm f1 (hl x1 (by simp))
    obtain ⟨a2, r2, m2, p2⟩ := rdSs n hm f2 (hl x2 (by simp))
    obtain ⟨a3, r3, m3, p3⟩ := rdSs n hm f3 (hl x3 (by simp))
    obtain ⟨a4, r4, m4, p4⟩ := rdSs n hm f4 (hl x4 (by simp))
    dsimp only at m0 m1 m2 m3 m4
    refine ⟨(a0, a1, a2, a3, a4), r0.append (r1.append (r2.append (r3.append r4))), ?_, trivial⟩
    simp only [wOn, wSL_sum]; omega
theorem rdP : ∀ n, Rd Try.prog bk n 26 encP wP (fun _ => True) := by
  intro n
  induction n with
  | zero => exact Rd.zero
  | succ n ih =>
    intro H e w sp hd fuel cs x hn h hlt
    obtain ⟨xs, m, hm, hc, hx, hb, hf, hl⟩ := trod_fields bulk Try.underlying26 hn h hlt
    rw [show Try.prog.cellsOf 26 = 9 from by kernel_rfl] at hc
    obtain ⟨x0, x1, x2, x3, x4, rfl⟩ : ∃ x0 x1 x2 x3 x4, xs = [x0, x1, x2, x3, x4] := by
      match xs, hx with | [x0, x1, x2, x3, x4], _ => exact ⟨x0, x1, x2, x3, x4, rfl⟩
    obtain ⟨c0, c1, c2, c3, c4, c5, c6, c7, c8, rfl⟩ : ∃ c0 c1 c2 c3 c4 c5 c6 c7 c8, cs = [c0, c1, c2, c3, c4, c5, c6, c7, c8] := by
      match cs, hc with | [c0, c1, c2, c3, c4, c5, c6, c7, c8], _ => exact ⟨c0, c1, c2, c3, c4, c5, c6, c7, c8, rfl⟩
    simp only [List.map_cons, List.map_nil, bulk.lcons, bulk.lnil] at hb
    have f0 := hf 0 _ rfl
    have f1 := hf 1 _ rfl
    have f2 := hf 2 _ rfl
    have f3 := hf 3 _ rfl
    have f4 := hf 4 _ rfl
    simp only [show Try.prog.cellsOf 24 = 5 from by kernel_rfl, show Try.prog.cellsOf 22 = 1 from by kernel_rfl, show Try.prog.cellsOf 3 = 1 from by kernel_rfl, show Try.prog.cellsOf 9 = 1 from by kernel_rfl, List.drop_zero, List.drop_succ_cons, List.take_succ_cons, List.take_zero, List.getElem?_cons_zero, List.getElem?_cons_succ] at f0 f1 f2 f3 f4
    obtain ⟨a0, r0, m0, p0⟩ := (Rd.str bulk (n := n) Try.underlying9) hm f0 (hl x0 (by simp))
    obtain ⟨a1, r1, m1, p1⟩ := (rdVs n) hm f1 (hl x1 (by simp))
    obtain ⟨a2, r2, m2, p2⟩ := (rdOn n) hm f2 (hl x2 (by simp))
    obtain ⟨a3, r3, m3, p3⟩ := (Rd.int bulk (n := n) Try.underlying3) hm f3 (hl x3 (by simp))
    obtain ⟨a4, r4, m4, p4⟩ := (Rd.int bulk (n := n) Try.underlying3) hm f4 (hl x4 (by simp))
    (try dsimp only at m0); (try dsimp only at m1); (try dsimp only at m2); (try dsimp only at m3); (try dsimp only at m4)
    refine ⟨⟨a0, a1, a2.1, a2.2.1, a2.2.2.1, a2.2.2.2.1, a2.2.2.2.2, a3, a4⟩, ?_, ?_, trivial⟩
    · exact r0.append (r1.append (r2.append (r3.append (r4))))
    · simp only [wP]; simp only [wOn] at m2; omega
end Go.Proofs.Ytiifbdkedainnaa.Y

set_option maxRecDepth 20000
set_option linter.unusedVariables false
set_option linter.unusedSimpArgs false
namespace Go.Proofs.Ytiifbdkedainnaa.Y
open Go.Proofs.Ytiifbdkedainnaa.AL Go.Proofs Go
attribute [local irreducible] AWP AWL AWG AWR AWE AWX AWO AWSeq AWSG AWSR AWSO AWSE AWSF GoodP OGW OGR OGE OGX PGW PGR PGE Wk AWLoop AWPD AWLD
theorem rdIn : ∀ n, Rd Try.prog bk n 41 encI (fun _ => 1) (fun _ => True) := by
  intro n
  induction n with
  | zero => exact Rd.zero
  | succ n ih =>
    intro H e w sp hd fuel cs x hn h hlt
    obtain ⟨xs, m, hm, hc, hx, hb, hf, hl⟩ := trod_fields bulk Try.underlying41 hn h hlt
    rw [show Try.prog.cellsOf 41 = 3 from by kernel_rfl] at hc
    obtain ⟨x0, x1, x2, rfl⟩ : ∃ x0 x1 x2, xs = [x0, x1, x2] := by
      match xs, hx with | [x0, x1, x2], _ => exact ⟨x0, x1, x2, rfl⟩
    obtain ⟨c0, c1, c2, rfl⟩ : ∃ c0 c1 c2, cs = [c0, c1, c2] := by
      match cs, hc with | [c0, c1, c2], _ => exact ⟨c0, c1, c2, rfl⟩
    simp only [List.map_cons, List.map_nil, bulk.lcons, bulk.lnil] at hb
    have f0 := hf 0 _ rfl
    have f1 := hf 1 _ rfl
    have f2 := hf 2 _ rfl
    simp only [show Try.prog.cellsOf 3 = 1 from by kernel_rfl, List.drop_zero, List.drop_succ_cons, List.take_succ_cons, List.take_zero, List.getElem?_cons_zero, List.getElem?_cons_succ] at f0 f1 f2
    obtain ⟨a0, r0, m0, p0⟩ := (Rd.int bulk (n := n) Try.underlying3) hm f0 (hl x0 (by simp))
    obtain ⟨a1, r1, m1, p1⟩ := (Rd.int bulk (n := n) Try.underlying3) hm f1 (hl x1 (by simp))
    obtain ⟨a2, r2, m2, p2⟩ := (Rd.int bulk (n := n) Try.underlying3) hm f2 (hl x2 (by simp))
    (try dsimp only at m0); (try dsimp only at m1); (try dsimp only at m2)
    refine ⟨⟨a0, a1, a2⟩, ?_, ?_, trivial⟩
    · exact r0.append (r1.append (r2))
    · dsimp only; omega
theorem rdIns (n : Nat) : Rd Try.prog bk n 27 (fun l : List Ins => [.rs 3 (l.map encI)]) (fun l => sumM (fun _ => 1) l + 1) (fun l => ∀ a ∈ l, True) :=
  Rd.le (Rd.slice bulk (n := n) Try.underlying27 (by kernel_rfl) (by decide) (rdIn n) (fun _ => rfl)) (Nat.le_succ n)
def wI (l : List Ins) : Nat := sumM (fun _ => 1) l + 1
theorem wI_len (l : List Ins) : l.length < wI l := by
  have : ∀ l : List Ins, sumM (fun _ => 1) l = l.length := by
    intro l; induction l with
    | nil => rfl
    | cons x xs ih => simp only [sumM, List.length_cons, ih]; omega
  unfold wI; rw [this]; omega
def wCd (c : Cod) : Nat := wI c.c0 + wI c.c1 + wI c.c2 + wI c.c3 + wI c.c4
abbrev cCod (c : Cod) : List PV := [.rs 3 (c.c0.map encI), .rs 3 (c.c1.map encI), .rs 3 (c.c2.map encI), .rs 3 (c.c3.map encI), .rs 3 (c.c4.map encI)]
theorem rdC5 : ∀ n, Rd Try.prog bk n 28 cCod wCd (fun _ => True) := by
  intro n
  cases n with
  | zero => exact Rd.zero
  | succ n =>
    intro H e w sp hd fuel cs x hn h hlt
    obtain ⟨xs, m, hm, hc, hx, hb, hf, hl⟩ := trod_items bulk Try.underlying28 hn h hlt
    rw [show Try.prog.cellsOf 28 = 5 from by kernel_rfl] at hc
    obtain ⟨x0, x1, x2, x3, x4, rfl⟩ : ∃ x0  x1  x2  x3  x4, xs = [x0, x1, x2, x3, x4] := by
      match xs, hx with | [x0, x1, x2, x3, x4], _ => exact ⟨x0, x1, x2, x3, x4, rfl⟩
    obtain ⟨c0, c1, c2, c3, c4, rfl⟩ : ∃ c0  c1  c2  c3  c4, cs = [c0, c1, c2, c3, c4] := by
      match cs, hc with | [c0, c1, c2, c3, c4], _ => exact ⟨c0, c1, c2, c3, c4, rfl⟩
    simp only [List.map_cons, List.map_nil, bulk.lcons, bulk.lnil] at hb
    have f0 := hf 0 (by omega)
    have f1 := hf 1 (by omega)
    have f2 := hf 2 (by omega)
    have f3 := hf 3 (by omega)
    have f4 := hf 4 (by omega)
    simp only [show Try.prog.cellsOf 27 = 1 from by kernel_rfl, Nat.reduceMul, List.drop_zero, List.drop_succ_cons, List.take_succ_cons, List.take_zero, List.getElem?_cons_zero, List.getElem?_cons_succ] at f0 f1 f2 f3 f4
    obtain ⟨a0, r0, m0, p0⟩ := rdIns n hm f0 (hl x0 (by simp))
    obtain ⟨a1, r1, m1, p1⟩ := rdIns n hm f1 (hl x1 (by simp))
    obtain ⟨a2, r2, m2, p2⟩ := rdIns n hm f2 (hl x2 (by simp))
    obtain ⟨a3, r3, m3, p3⟩ := rdIns n hm f3 (hl x3 (by simp))
    obtain ⟨a4, r4, m4, p4⟩ := rdIns n hm f4 (hl x4 (by simp))
    dsimp only at m0 m1 m2 m3 m4
    refine ⟨⟨a0, a1, a2, a3, a4⟩, r0.append (r1.append (r2.append (r3.append (r4)))), ?_, trivial⟩
    simp only [wCd, wI]; omega
theorem rdC : ∀ n, Rd Try.prog bk n 30 cCod wCd (fun _ => True) := by
  intro n
  induction n with
  | zero => exact Rd.zero
  | succ n ih =>
    intro H e w sp hd fuel cs x hn h hlt
    obtain ⟨xs, m, hm, hc, hx, hb, hf, hl⟩ := trod_fields bulk Try.underlying30 hn h hlt
    rw [show Try.prog.cellsOf 30 = 5 from by kernel_rfl] at hc
    obtain ⟨x0, rfl⟩ : ∃ x0, xs = [x0] := by
      match xs, hx with | [x0], _ => exact ⟨x0, rfl⟩
    obtain ⟨c0, c1, c2, c3, c4, rfl⟩ : ∃ c0 c1 c2 c3 c4, cs = [c0, c1, c2, c3, c4] := by
      match cs, hc with | [c0, c1, c2, c3, c4], _ => exact ⟨c0, c1, c2, c3, c4, rfl⟩
    simp only [List.map_cons, List.map_nil, bulk.lcons, bulk.lnil] at hb
    have f0 := hf 0 _ rfl
    simp only [show Try.prog.cellsOf 28 = 5 from by kernel_rfl, List.drop_zero, List.drop_succ_cons, List.take_succ_cons, List.take_zero, List.getElem?_cons_zero, List.getElem?_cons_succ] at f0
    obtain ⟨a0, r0, m0, p0⟩ := (rdC5 n) hm f0 (hl x0 (by simp))
    (try dsimp only at m0)
    refine ⟨a0, ?_, ?_, trivial⟩
    · exact r0
    · omega
theorem u8wf2 {n : Int} (h : (Lit.int .u8 n).wf = true) : 0 ≤ n ∧ n ≤ 255 := by
  simpa [Lit.wf, IntKind.min, IntKind.max, IntKind.signed, IntKind.bits] using h
theorem u16wf2 {n : Int} (h : (Lit.int .u16 n).wf = true) : 0 ≤ n ∧ n ≤ 65535 := by
  simpa [Lit.wf, IntKind.min, IntKind.max, IntKind.signed, IntKind.bits] using h
theorem rdBs (n : Nat) : Rd Try.prog bk n 39 (fun l : List Bool => [.rs 1 (l.map fun b => [.sc (.bool b)])]) (fun l => sumM (fun _ => 1) l + 1) (fun l => ∀ a ∈ l, True) :=
  Rd.le (Rd.slice bulk (n := n) Try.underlying39 (by kernel_rfl) (by decide) (Rd.bool bulk (n := n) Try.underlying4) (fun _ => rfl)) (Nat.le_succ n)
end Go.Proofs.Ytiifbdkedainnaa.Y

namespace Go.Proofs.Ytiifbdkedainnaa.Y
open Go.Proofs.Ytiifbdkedainnaa.AL Go.Proofs Go
attribute [local irreducible] AWP AWL AWG AWR AWE AWX AWO AWSeq AWSG AWSR AWSO AWSE AWSF GoodP OGW OGR OGE OGX PGW PGR PGE Wk AWLoop AWPD AWLD
/-- No package variable is read. -/
theorem gtabW (W : World) : GRel W (Old W) := fun g cells h => by cases h
end Go.Proofs.Ytiifbdkedainnaa.Y
