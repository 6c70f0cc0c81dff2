/- How data of this seat's parameters open, and the laws' pure statements. -/
import Derived.Test.YtfomlahadnihhaaGx0
import Derived.Deep.Slices
import Derived.Deep.Fields
import Derived.ChangeSame
import Derived.ChangeArms
set_option linter.unusedVariables false
namespace Go.Proofs.Ytfomlahadnihhaa.Opn
open Go Go.ChangeShapes Go.WideShapes Go.RowKit Go.Proofs.YtfomlahadnihhaaW.PrintWords Go.Proofs.Ytfomlahadnihhaa.G

def Opens (P : Program) (T : TypeId) {α : Type} (d : Kd α) (wf : α → Prop) : Prop :=
  ∀ (H : Type) (enc : TypeId × Value → H) (w : World) (base : Nat) (sp : Nat → Bool) (held : Bool) (fuel : Nat) (cs : List Value) (y : DataW H × List MemPlace), DataW.trod enc P w base sp held fuel T cs = some y → ∃ x, d.K w x cs ∧ wf x
theorem Opens.mono {P : Program} {T : TypeId} {α : Type} {d : Kd α} {wf wf' : α → Prop} (h : Opens P T d wf) (hw : ∀ x, wf x → wf' x) : Opens P T d wf' := fun H enc w base sp held fuel cs y hy => by
  obtain ⟨x, hk, hx⟩ := h H enc w base sp held fuel cs y hy
  exact ⟨x, hk, hw x hx⟩
theorem opens_int {P : Program} {T : TypeId} {k : IntKind} (ht : P.underlying T = some (.int k)) : Opens P T (Kd.int k) (fun x => (Lit.int k x).wf = true) := fun H enc w base sp held fuel cs y hy => by
  obtain ⟨n, rfl, _, hn⟩ := DataW.trod_int ht hy
  exact ⟨n, rfl, hn⟩
theorem opens_bool {P : Program} {T : TypeId} (ht : P.underlying T = some .bool) : Opens P T Kd.bool (fun _ => True) := fun H enc w base sp held fuel cs y hy => by
  obtain ⟨n, rfl, _⟩ := DataW.trod_bool ht hy
  exact ⟨n, rfl, trivial⟩
theorem opens_string {P : Program} {T : TypeId} (ht : P.underlying T = some .string) : Opens P T Kd.string (fun x => x.size ≤ 9223372036854775807) := fun H enc w base sp held fuel cs y hy => by
  obtain ⟨n, rfl, _, hn⟩ := DataW.trod_string ht hy
  exact ⟨n, rfl, hn⟩
theorem opens_slice {P : Program} {T e : TypeId} {α : Type} {d : Kd α} {wf : α → Prop} (ht : P.underlying T = some (.slice e)) (hc : P.cellsOf e = d.sz) (h : Opens P e d wf) : Opens P T (Kd.slice e d) (fun x => x.length ≤ 9223372036854775807 ∧ ∀ y ∈ x, wf y) := fun H enc w base sp held fuel cs y hy => by
  rcases Go.Deep.open_slice ht hy with ⟨rfl, _⟩ | ⟨a, len, cap, m, n, D, Pl, rfl, _, hl, hm, hmm, _, hi⟩
  · exact ⟨[], ⟨none, 0, rfl, Nat.le_refl _, rfl, by simp, fun h => absurd h (by simp)⟩, by simp, by simp⟩
  · have hlm : len ≤ m := by rw [hmm]; split <;> omega
    have hm' : cap ≤ 9223372036854775807 := hm
    have hch : ∀ i : Fin len, ∃ x : α, wf x ∧ ∃ c, c.length = d.sz ∧ d.K w x c ∧ ∀ j u, c[j]? = some u → w.cell? (a.add (i.val * d.sz + j)) = some u := fun i => by
      obtain ⟨c, hcc, hd⟩ := hi i.val (by have := i.isLt; omega)
      obtain ⟨_, hcl, hat⟩ := World.cells?_some hcc
      obtain ⟨x, hk, hx⟩ := h H enc w base sp held n c _ hd
      refine ⟨x, hx, c, by rw [hcl, hc], hk, fun j u hu => ?_⟩
      have hj : j < P.cellsOf e := by rw [← hcl]; exact (List.getElem?_eq_some_iff.1 hu).1
      have := hat j hj
      rw [hu, hc, Go.Deep.add_add] at this
      exact this
    have hx := fun i => Classical.choose_spec (hch i)
    refine ⟨List.ofFn fun i => Classical.choose (hch i), ⟨some a, cap, by rw [List.length_ofFn], by rw [List.length_ofFn]; exact hl, rfl, by rw [List.length_ofFn]; omega, fun _ => ⟨a, rfl, fun j p hp => ?_⟩⟩, by rw [List.length_ofFn]; omega, fun y hy => ?_⟩
    · obtain ⟨hj, he⟩ := List.getElem?_eq_some_iff.1 hp
      have hj' : j < len := by rw [List.length_ofFn] at hj; exact hj
      rw [List.getElem_ofFn] at he
      obtain ⟨c, h1, h2, h3⟩ := (hx ⟨j, hj'⟩).2
      rw [he] at h2
      exact ⟨c, h1, h2, h3⟩
    · obtain ⟨i, rfl⟩ := (List.mem_ofFn).1 hy
      exact (hx i).1

theorem opens_t2 : Opens Try.prog 2 (Kd.int .i64) (fun x => (Lit.int .i64 x).wf = true) := opens_int Try.underlying2
theorem opens_t22 : Opens Try.prog 22 (Kd.slice 2 (Kd.int .i64)) (fun x => x.length ≤ 9223372036854775807 ∧ ∀ y ∈ x, (Lit.int .i64 y).wf = true) := (opens_slice Try.underlying22 (by kernel_rfl) opens_t2).mono fun x h => h
theorem opens_t5 : Opens Try.prog 5 (Kd.int .u8) (fun x => (Lit.int .u8 x).wf = true) := opens_int Try.underlying5
theorem opens_t23 : Opens Try.prog 23 (Kd.slice 5 (Kd.int .u8)) (fun x => x.length ≤ 9223372036854775807 ∧ ∀ y ∈ x, (Lit.int .u8 y).wf = true) := (opens_slice Try.underlying23 (by kernel_rfl) opens_t5).mono fun x h => h
theorem opens_t21 : Opens Try.prog 21 (Kd.int .i32) (fun x => (Lit.int .i32 x).wf = true) := opens_int Try.underlying21
theorem opens_t4 : Opens Try.prog 4 Kd.bool (fun x => True) := opens_bool Try.underlying4
def Wf38 (x : S38) : Prop := ((Lit.int .i32 x.f0).wf = true) ∧ ((Lit.int .u8 x.f2).wf = true)
theorem cells_t4 : Try.prog.cellsOf 4 = 1 := by kernel_rfl
theorem cells_t5 : Try.prog.cellsOf 5 = 1 := by kernel_rfl
theorem cells_t21 : Try.prog.cellsOf 21 = 1 := by kernel_rfl
theorem cells_t38 : Try.prog.cellsOf 38 = 3 := by kernel_rfl
theorem opens_t38 : Opens Try.prog 38 k38 (fun x => Wf38 x) := by
  intro H enc w base sp held fuel cs y hy
  obtain ⟨xs, n, _, _, hlen, hxl, hf⟩ := DataW.trod_struct Try.underlying38 hy
  rw [cells_t38] at hlen
  obtain ⟨c0, c1, c2, rfl⟩ : ∃ c0 c1 c2, cs = [c0, c1, c2] := by
    match cs, hlen with
    | [c0, c1, c2], _ => exact ⟨c0, c1, c2, rfl⟩
  have g0 := hf 0 _ rfl
  replace g0 : DataW.trod enc Try.prog w base sp held n 21 (([c0, c1, c2].drop 0).take (Try.prog.cellsOf 21)) = xs[0]? := g0
  rw [cells_t21] at g0
  obtain ⟨y0, e0⟩ : ∃ y, xs[0]? = some y := ⟨_, List.getElem?_eq_getElem (by rw [hxl]; decide)⟩
  rw [e0] at g0
  obtain ⟨x0, K0, W0⟩ := opens_t21 _ _ _ _ _ _ _ _ _ g0
  replace K0 : Kd.K (Kd.int .i32) w x0 [c0] := K0
  have g1 := hf 1 _ rfl
  replace g1 : DataW.trod enc Try.prog w base sp held n 4 (([c0, c1, c2].drop 1).take (Try.prog.cellsOf 4)) = xs[1]? := g1
  rw [cells_t4] at g1
  obtain ⟨y1, e1⟩ : ∃ y, xs[1]? = some y := ⟨_, List.getElem?_eq_getElem (by rw [hxl]; decide)⟩
  rw [e1] at g1
  obtain ⟨x1, K1, W1⟩ := opens_t4 _ _ _ _ _ _ _ _ _ g1
  replace K1 : Kd.K Kd.bool w x1 [c1] := K1
  have g2 := hf 2 _ rfl
  replace g2 : DataW.trod enc Try.prog w base sp held n 5 (([c0, c1, c2].drop 2).take (Try.prog.cellsOf 5)) = xs[2]? := g2
  rw [cells_t5] at g2
  obtain ⟨y2, e2⟩ : ∃ y, xs[2]? = some y := ⟨_, List.getElem?_eq_getElem (by rw [hxl]; decide)⟩
  rw [e2] at g2
  obtain ⟨x2, K2, W2⟩ := opens_t5 _ _ _ _ _ _ _ _ _ g2
  replace K2 : Kd.K (Kd.int .u8) w x2 [c2] := K2
  exact ⟨⟨x0, x1, x2⟩, ⟨_, _, rfl, K0, ⟨_, _, rfl, K1, K2⟩⟩, ⟨W0, W2⟩⟩
theorem opens_t24 : Opens Try.prog 24 (Kd.slice 38 k38) (fun x => x.length ≤ 9223372036854775807 ∧ ∀ y ∈ x, Wf38 y) := (opens_slice Try.underlying24 (by kernel_rfl) opens_t38).mono fun x h => h
def Wf42 (x : S42) : Prop := ((Lit.int .i64 x.f0).wf = true) ∧ ((Lit.int .i32 x.f1).wf = true)
theorem cells_t2 : Try.prog.cellsOf 2 = 1 := by kernel_rfl
theorem cells_t42 : Try.prog.cellsOf 42 = 2 := by kernel_rfl
theorem opens_t42 : Opens Try.prog 42 k42 (fun x => Wf42 x) := by
  intro H enc w base sp held fuel cs y hy
  obtain ⟨xs, n, _, _, hlen, hxl, hf⟩ := DataW.trod_struct Try.underlying42 hy
  rw [cells_t42] at hlen
  obtain ⟨c0, c1, rfl⟩ : ∃ c0 c1, cs = [c0, c1] := by
    match cs, hlen with
    | [c0, c1], _ => exact ⟨c0, c1, rfl⟩
  have g0 := hf 0 _ rfl
  replace g0 : DataW.trod enc Try.prog w base sp held n 2 (([c0, c1].drop 0).take (Try.prog.cellsOf 2)) = xs[0]? := g0
  rw [cells_t2] at g0
  obtain ⟨y0, e0⟩ : ∃ y, xs[0]? = some y := ⟨_, List.getElem?_eq_getElem (by rw [hxl]; decide)⟩
  rw [e0] at g0
  obtain ⟨x0, K0, W0⟩ := opens_t2 _ _ _ _ _ _ _ _ _ g0
  replace K0 : Kd.K (Kd.int .i64) w x0 [c0] := K0
  have g1 := hf 1 _ rfl
  replace g1 : DataW.trod enc Try.prog w base sp held n 21 (([c0, c1].drop 1).take (Try.prog.cellsOf 21)) = xs[1]? := g1
  rw [cells_t21] at g1
  obtain ⟨y1, e1⟩ : ∃ y, xs[1]? = some y := ⟨_, List.getElem?_eq_getElem (by rw [hxl]; decide)⟩
  rw [e1] at g1
  obtain ⟨x1, K1, W1⟩ := opens_t21 _ _ _ _ _ _ _ _ _ g1
  replace K1 : Kd.K (Kd.int .i32) w x1 [c1] := K1
  exact ⟨⟨x0, x1⟩, ⟨_, _, rfl, K0, K1⟩, ⟨W0, W1⟩⟩
theorem opens_t25 : Opens Try.prog 25 (Kd.slice 42 k42) (fun x => x.length ≤ 9223372036854775807 ∧ ∀ y ∈ x, Wf42 y) := (opens_slice Try.underlying25 (by kernel_rfl) opens_t42).mono fun x h => h
theorem opens_t26 : Opens Try.prog 26 (Kd.slice 4 Kd.bool) (fun x => x.length ≤ 9223372036854775807) := (opens_slice Try.underlying26 (by kernel_rfl) opens_t4).mono fun x h => h.1
def Wf28 (x : S28) : Prop := (x.f0.length ≤ 9223372036854775807 ∧ ∀ y ∈ x.f0, (Lit.int .i64 y).wf = true) ∧ (x.f1.length ≤ 9223372036854775807 ∧ ∀ y ∈ x.f1, (Lit.int .u8 y).wf = true) ∧ (x.f2.length ≤ 9223372036854775807 ∧ ∀ y ∈ x.f2, Wf38 y) ∧ (x.f3.length ≤ 9223372036854775807 ∧ ∀ y ∈ x.f3, (Lit.int .u8 y).wf = true) ∧ (x.f4.length ≤ 9223372036854775807 ∧ ∀ y ∈ x.f4, Wf42 y) ∧ (x.f5.length ≤ 9223372036854775807) ∧ (x.f6.length ≤ 9223372036854775807)
theorem cells_t22 : Try.prog.cellsOf 22 = 1 := by kernel_rfl
theorem cells_t23 : Try.prog.cellsOf 23 = 1 := by kernel_rfl
theorem cells_t24 : Try.prog.cellsOf 24 = 1 := by kernel_rfl
theorem cells_t25 : Try.prog.cellsOf 25 = 1 := by kernel_rfl
theorem cells_t26 : Try.prog.cellsOf 26 = 1 := by kernel_rfl
theorem cells_t28 : Try.prog.cellsOf 28 = 7 := by kernel_rfl
theorem opens_t28 : Opens Try.prog 28 k28 (fun x => Wf28 x) := by
  intro H enc w base sp held fuel cs y hy
  obtain ⟨xs, n, _, _, hlen, hxl, hf⟩ := DataW.trod_struct Try.underlying28 hy
  rw [cells_t28] at hlen
  obtain ⟨c0, c1, c2, c3, c4, c5, c6, rfl⟩ : ∃ c0 c1 c2 c3 c4 c5 c6, cs = [c0, c1, c2, c3, c4, c5, c6] := by
    match cs, hlen with
    | [c0, c1, c2, c3, c4, c5, c6], _ => exact ⟨c0, c1, c2, c3, c4, c5, c6, rfl⟩
  have g0 := hf 0 _ rfl
  replace g0 : DataW.trod enc Try.prog w base sp held n 22 (([c0, c1, c2, c3, c4, c5, c6].drop 0).take (Try.prog.cellsOf 22)) = xs[0]? := g0
  rw [cells_t22] at g0
  obtain ⟨y0, e0⟩ : ∃ y, xs[0]? = some y := ⟨_, List.getElem?_eq_getElem (by rw [hxl]; decide)⟩
  rw [e0] at g0
  obtain ⟨x0, K0, W0⟩ := opens_t22 _ _ _ _ _ _ _ _ _ g0
  replace K0 : Kd.K (Kd.slice 2 (Kd.int .i64)) w x0 [c0] := K0
  have g1 := hf 1 _ rfl
  replace g1 : DataW.trod enc Try.prog w base sp held n 23 (([c0, c1, c2, c3, c4, c5, c6].drop 1).take (Try.prog.cellsOf 23)) = xs[1]? := g1
  rw [cells_t23] at g1
  obtain ⟨y1, e1⟩ : ∃ y, xs[1]? = some y := ⟨_, List.getElem?_eq_getElem (by rw [hxl]; decide)⟩
  rw [e1] at g1
  obtain ⟨x1, K1, W1⟩ := opens_t23 _ _ _ _ _ _ _ _ _ g1
  replace K1 : Kd.K (Kd.slice 5 (Kd.int .u8)) w x1 [c1] := K1
  have g2 := hf 2 _ rfl
  replace g2 : DataW.trod enc Try.prog w base sp held n 24 (([c0, c1, c2, c3, c4, c5, c6].drop 2).take (Try.prog.cellsOf 24)) = xs[2]? := g2
  rw [cells_t24] at g2
  obtain ⟨y2, e2⟩ : ∃ y, xs[2]? = some y := ⟨_, List.getElem?_eq_getElem (by rw [hxl]; decide)⟩
  rw [e2] at g2
  obtain ⟨x2, K2, W2⟩ := opens_t24 _ _ _ _ _ _ _ _ _ g2
  replace K2 : Kd.K (Kd.slice 38 k38) w x2 [c2] := K2
  have g3 := hf 3 _ rfl
  replace g3 : DataW.trod enc Try.prog w base sp held n 23 (([c0, c1, c2, c3, c4, c5, c6].drop 3).take (Try.prog.cellsOf 23)) = xs[3]? := g3
  rw [cells_t23] at g3
  obtain ⟨y3, e3⟩ : ∃ y, xs[3]? = some y := ⟨_, List.getElem?_eq_getElem (by rw [hxl]; decide)⟩
  rw [e3] at g3
  obtain ⟨x3, K3, W3⟩ := opens_t23 _ _ _ _ _ _ _ _ _ g3
  replace K3 : Kd.K (Kd.slice 5 (Kd.int .u8)) w x3 [c3] := K3
  have g4 := hf 4 _ rfl
  replace g4 : DataW.trod enc Try.prog w base sp held n 25 (([c0, c1, c2, c3, c4, c5, c6].drop 4).take (Try.prog.cellsOf 25)) = xs[4]? := g4
  rw [cells_t25] at g4
  obtain ⟨y4, e4⟩ : ∃ y, xs[4]? = some y := ⟨_, List.getElem?_eq_getElem (by rw [hxl]; decide)⟩
  rw [e4] at g4
  obtain ⟨x4, K4, W4⟩ := opens_t25 _ _ _ _ _ _ _ _ _ g4
  replace K4 : Kd.K (Kd.slice 42 k42) w x4 [c4] := K4
  have g5 := hf 5 _ rfl
  replace g5 : DataW.trod enc Try.prog w base sp held n 26 (([c0, c1, c2, c3, c4, c5, c6].drop 5).take (Try.prog.cellsOf 26)) = xs[5]? := g5
  rw [cells_t26] at g5
  obtain ⟨y5, e5⟩ : ∃ y, xs[5]? = some y := ⟨_, List.getElem?_eq_getElem (by rw [hxl]; decide)⟩
  rw [e5] at g5
  obtain ⟨x5, K5, W5⟩ := opens_t26 _ _ _ _ _ _ _ _ _ g5
  replace K5 : Kd.K (Kd.slice 4 Kd.bool) w x5 [c5] := K5
  have g6 := hf 6 _ rfl
  replace g6 : DataW.trod enc Try.prog w base sp held n 26 (([c0, c1, c2, c3, c4, c5, c6].drop 6).take (Try.prog.cellsOf 26)) = xs[6]? := g6
  rw [cells_t26] at g6
  obtain ⟨y6, e6⟩ : ∃ y, xs[6]? = some y := ⟨_, List.getElem?_eq_getElem (by rw [hxl]; decide)⟩
  rw [e6] at g6
  obtain ⟨x6, K6, W6⟩ := opens_t26 _ _ _ _ _ _ _ _ _ g6
  replace K6 : Kd.K (Kd.slice 4 Kd.bool) w x6 [c6] := K6
  exact ⟨⟨x0, x1, x2, x3, x4, x5, x6⟩, ⟨_, _, rfl, K0, ⟨_, _, rfl, K1, ⟨_, _, rfl, K2, ⟨_, _, rfl, K3, ⟨_, _, rfl, K4, ⟨_, _, rfl, K5, K6⟩⟩⟩⟩⟩⟩, ⟨W0, W1, W2, W3, W4, W5, W6⟩⟩
end Go.Proofs.Ytfomlahadnihhaa.Opn
