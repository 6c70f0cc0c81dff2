/- How data of this seat's parameters open, and the laws' pure statements. -/
import Derived.Test.YtjpgfalejadblaaGx0
import Derived.Deep.Slices
import Derived.Deep.Fields
import Derived.ChangeSame
import Derived.ChangeArms
set_option linter.unusedVariables false
namespace Go.Proofs.Ytjpgfalejadblaa.Opn
open Go Go.ChangeShapes Go.WideShapes Go.RowKit Go.Proofs.YtjpgfalejadblaaW.PrintWords Go.Proofs.Ytjpgfalejadblaa.G

def Opens (P : Program) (T : TypeId) {α : Type} (d : Kd α) (wf : α → Prop) : Prop :=
  ∀ (H : Type) (enc : TypeId × Value → H) (w : World) (base : Nat) (sp : Nat → Bool) (held : Bool) (fuel : Nat) (cs : List Value) (y : DataW H × List MemPlace), DataW.trod enc P w base sp held fuel T cs = some y → ∃ x, d.K w x cs ∧ wf x
theorem Opens.mono {P : Program} {T : TypeId} {α : Type} {d : Kd α} {wf wf' : α → Prop} (h : Opens P T d wf) (hw : ∀ x, wf x → wf' x) : Opens P T d wf' := fun H enc w base sp held fuel cs y hy => by
  obtain ⟨x, hk, hx⟩ := h H enc w base sp held fuel cs y hy
  exact ⟨x, hk, hw x hx⟩
theorem opens_int {P : Program} {T : TypeId} {k : IntKind} (ht : P.underlying T = some (.int k)) : Opens P T (Kd.int k) (fun x => (Lit.int k x).wf = true) := fun H enc w base sp held fuel cs y hy => by
  obtain ⟨n, rfl, _, hn⟩ := DataW.trod_int ht hy
  exact ⟨n, rfl, hn⟩
theorem opens_bool {P : Program} {T : TypeId} (ht : P.underlying T = some .bool) : Opens P T Kd.bool (fun _ => True) := fun H enc w base sp held fuel cs y hy => by
  obtain ⟨n, rfl, _⟩ := DataW.trod_bool ht hy
  exact ⟨n, rfl, trivial⟩
theorem opens_string {P : Program} {T : TypeId} (ht : P.underlying T = some .string) : Opens P T Kd.string (fun x => x.size ≤ 9223372036854775807) := fun H enc w base sp held fuel cs y hy => by
  obtain ⟨n, rfl, _, hn⟩ := DataW.trod_string ht hy
  exact ⟨n, rfl, hn⟩
theorem opens_slice {P : Program} {T e : TypeId} {α : Type} {d : Kd α} {wf : α → Prop} (ht : P.underlying T = some (.slice e)) (hc : P.cellsOf e = d.sz) (h : Opens P e d wf) : Opens P T (Kd.slice e d) (fun x => x.length ≤ 9223372036854775807 ∧ ∀ y ∈ x, wf y) := fun H enc w base sp held fuel cs y hy => by
  rcases Go.Deep.open_slice ht hy with ⟨rfl, _⟩ | ⟨a, len, cap, m, n, D, Pl, rfl, _, hl, hm, hmm, _, hi⟩
  · exact ⟨[], ⟨none, 0, rfl, Nat.le_refl _, rfl, by simp, fun h => absurd h (by simp)⟩, by simp, by simp⟩
  · have hlm : len ≤ m := by rw [hmm]; split <;> omega
    have hm' : cap ≤ 9223372036854775807 := hm
    have hch : ∀ i : Fin len, ∃ x : α, wf x ∧ ∃ c, c.length = d.sz ∧ d.K w x c ∧ ∀ j u, c[j]? = some u → w.cell? (a.add (i.val * d.sz + j)) = some u := fun i => by
      obtain ⟨c, hcc, hd⟩ := hi i.val (by have := i.isLt; omega)
      obtain ⟨_, hcl, hat⟩ := World.cells?_some hcc
      obtain ⟨x, hk, hx⟩ := h H enc w base sp held n c _ hd
      refine ⟨x, hx, c, by rw [hcl, hc], hk, fun j u hu => ?_⟩
      have hj : j < P.cellsOf e := by rw [← hcl]; exact (List.getElem?_eq_some_iff.1 hu).1
      have := hat j hj
      rw [hu, hc, Go.Deep.add_add] at this
      exact this
    have hx := fun i => Classical.choose_spec (hch i)
    refine ⟨List.ofFn fun i => Classical.choose (hch i), ⟨some a, cap, by rw [List.length_ofFn], by rw [List.length_ofFn]; exact hl, rfl, by rw [List.length_ofFn]; omega, fun _ => ⟨a, rfl, fun j p hp => ?_⟩⟩, by rw [List.length_ofFn]; omega, fun y hy => ?_⟩
    · obtain ⟨hj, he⟩ := List.getElem?_eq_some_iff.1 hp
      have hj' : j < len := by rw [List.length_ofFn] at hj; exact hj
      rw [List.getElem_ofFn] at he
      obtain ⟨c, h1, h2, h3⟩ := (hx ⟨j, hj'⟩).2
      rw [he] at h2
      exact ⟨c, h1, h2, h3⟩
    · obtain ⟨i, rfl⟩ := (List.mem_ofFn).1 hy
      exact (hx i).1

theorem opens_t5 : Opens Try.prog 5 (Kd.int .u8) (fun x => (Lit.int .u8 x).wf = true) := opens_int Try.underlying5
theorem opens_t22 : Opens Try.prog 22 (Kd.slice 5 (Kd.int .u8)) (fun x => x.length ≤ 9223372036854775807 ∧ ∀ y ∈ x, (Lit.int .u8 y).wf = true) := (opens_slice Try.underlying22 (by kernel_rfl) opens_t5).mono fun x h => h
theorem opens_t3 : Opens Try.prog 3 (Kd.int .i64) (fun x => (Lit.int .i64 x).wf = true) := opens_int Try.underlying3
theorem opens_t24 : Opens Try.prog 24 (Kd.int .i64) (fun x => (Lit.int .i64 x).wf = true) := opens_int Try.underlying24
structure S26 where
  f0 : List (Int)
  f1 : Int
  f2 : Int
  f3 : Int
def k26 : Kd S26 := Kd.iso (Kd.pair (Kd.slice 5 (Kd.int .u8)) (Kd.pair (Kd.int .i64) (Kd.pair (Kd.int .i64) (Kd.int .i64)))) (fun x : S26 => (x.f0, x.f1, x.f2, x.f3))
def Wf26 (x : S26) : Prop := (x.f0.length ≤ 9223372036854775807 ∧ ∀ y ∈ x.f0, (Lit.int .u8 y).wf = true) ∧ ((Lit.int .i64 x.f1).wf = true) ∧ ((Lit.int .i64 x.f2).wf = true) ∧ ((Lit.int .i64 x.f3).wf = true)
theorem cells_t3 : Try.prog.cellsOf 3 = 1 := by kernel_rfl
theorem cells_t22 : Try.prog.cellsOf 22 = 1 := by kernel_rfl
theorem cells_t24 : Try.prog.cellsOf 24 = 1 := by kernel_rfl
theorem cells_t26 : Try.prog.cellsOf 26 = 4 := by kernel_rfl
theorem opens_t26 : Opens Try.prog 26 k26 (fun x => Wf26 x) := by
  intro H enc w base sp held fuel cs y hy
  obtain ⟨xs, n, _, _, hlen, hxl, hf⟩ := DataW.trod_struct Try.underlying26 hy
  rw [cells_t26] at hlen
  obtain ⟨c0, c1, c2, c3, rfl⟩ : ∃ c0 c1 c2 c3, cs = [c0, c1, c2, c3] := by
    match cs, hlen with
    | [c0, c1, c2, c3], _ => exact ⟨c0, c1, c2, c3, rfl⟩
  have g0 := hf 0 _ rfl
  replace g0 : DataW.trod enc Try.prog w base sp held n 22 (([c0, c1, c2, c3].drop 0).take (Try.prog.cellsOf 22)) = xs[0]? := g0
  rw [cells_t22] at g0
  obtain ⟨y0, e0⟩ : ∃ y, xs[0]? = some y := ⟨_, List.getElem?_eq_getElem (by rw [hxl]; decide)⟩
  rw [e0] at g0
  obtain ⟨x0, K0, W0⟩ := opens_t22 _ _ _ _ _ _ _ _ _ g0
  replace K0 : Kd.K (Kd.slice 5 (Kd.int .u8)) w x0 [c0] := K0
  have g1 := hf 1 _ rfl
  replace g1 : DataW.trod enc Try.prog w base sp held n 3 (([c0, c1, c2, c3].drop 1).take (Try.prog.cellsOf 3)) = xs[1]? := g1
  rw [cells_t3] at g1
  obtain ⟨y1, e1⟩ : ∃ y, xs[1]? = some y := ⟨_, List.getElem?_eq_getElem (by rw [hxl]; decide)⟩
  rw [e1] at g1
  obtain ⟨x1, K1, W1⟩ := opens_t3 _ _ _ _ _ _ _ _ _ g1
  replace K1 : Kd.K (Kd.int .i64) w x1 [c1] := K1
  have g2 := hf 2 _ rfl
  replace g2 : DataW.trod enc Try.prog w base sp held n 24 (([c0, c1, c2, c3].drop 2).take (Try.prog.cellsOf 24)) = xs[2]? := g2
  rw [cells_t24] at g2
  obtain ⟨y2, e2⟩ : ∃ y, xs[2]? = some y := ⟨_, List.getElem?_eq_getElem (by rw [hxl]; decide)⟩
  rw [e2] at g2
  obtain ⟨x2, K2, W2⟩ := opens_t24 _ _ _ _ _ _ _ _ _ g2
  replace K2 : Kd.K (Kd.int .i64) w x2 [c2] := K2
  have g3 := hf 3 _ rfl
  replace g3 : DataW.trod enc Try.prog w base sp held n 3 (([c0, c1, c2, c3].drop 3).take (Try.prog.cellsOf 3)) = xs[3]? := g3
  rw [cells_t3] at g3
  obtain ⟨y3, e3⟩ : ∃ y, xs[3]? = some y := ⟨_, List.getElem?_eq_getElem (by rw [hxl]; decide)⟩
  rw [e3] at g3
  obtain ⟨x3, K3, W3⟩ := opens_t3 _ _ _ _ _ _ _ _ _ g3
  replace K3 : Kd.K (Kd.int .i64) w x3 [c3] := K3
  exact ⟨⟨x0, x1, x2, x3⟩, ⟨_, _, rfl, K0, ⟨_, _, rfl, K1, ⟨_, _, rfl, K2, K3⟩⟩⟩, ⟨W0, W1, W2, W3⟩⟩
end Go.Proofs.Ytjpgfalejadblaa.Opn
