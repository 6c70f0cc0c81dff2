/- How data of this seat's parameters open, and the laws' pure statements. -/
import Derived.Test.YtiaobffdggeofaaDoorGx0
import Derived.Test.YtiaobffdggeofaaDoorGx10
import Derived.Test.YtiaobffdggeofaaDoorGx11
import Derived.Test.YtiaobffdggeofaaDoorGx8
import Derived.Test.YtiaobffdggeofaaDoorGx9
import Derived.Deep.Slices
import Derived.Deep.Fields
import Derived.ChangeSame
import Derived.ChangeArms
set_option linter.unusedVariables false
namespace Go.Proofs.YtiaobffdggeofaaDoor.Opn
open Go Go.ChangeShapes Go.WideShapes Go.RowKit Go.Proofs.YtiaobffdggeofaaDoorW.PrintWords Go.Proofs.YtiaobffdggeofaaDoor.G

def Opens (P : Program) (T : TypeId) {α : Type} (d : Kd α) (wf : α → Prop) : Prop :=
  ∀ (H : Type) (enc : TypeId × Value → H) (w : World) (base : Nat) (sp : Nat → Bool) (held : Bool) (fuel : Nat) (cs : List Value) (y : DataW H × List MemPlace), DataW.trod enc P w base sp held fuel T cs = some y → ∃ x, d.K w x cs ∧ wf x
theorem Opens.mono {P : Program} {T : TypeId} {α : Type} {d : Kd α} {wf wf' : α → Prop} (h : Opens P T d wf) (hw : ∀ x, wf x → wf' x) : Opens P T d wf' := fun H enc w base sp held fuel cs y hy => by
  obtain ⟨x, hk, hx⟩ := h H enc w base sp held fuel cs y hy
  exact ⟨x, hk, hw x hx⟩
theorem opens_int {P : Program} {T : TypeId} {k : IntKind} (ht : P.underlying T = some (.int k)) : Opens P T (Kd.int k) (fun x => (Lit.int k x).wf = true) := fun H enc w base sp held fuel cs y hy => by
  obtain ⟨n, rfl, _, hn⟩ := DataW.trod_int ht hy
  exact ⟨n, rfl, hn⟩
theorem opens_bool {P : Program} {T : TypeId} (ht : P.underlying T = some .bool) : Opens P T Kd.bool (fun _ => True) := fun H enc w base sp held fuel cs y hy => by
  obtain ⟨n, rfl, _⟩ := DataW.trod_bool ht hy
  exact ⟨n, rfl, trivial⟩
theorem opens_string {P : Program} {T : TypeId} (ht : P.underlying T = some .string) : Opens P T Kd.string (fun x => x.size ≤ 9223372036854775807) := fun H enc w base sp held fuel cs y hy => by
  obtain ⟨n, rfl, _, hn⟩ := DataW.trod_string ht hy
  exact ⟨n, rfl, hn⟩
theorem opens_slice {P : Program} {T e : TypeId} {α : Type} {d : Kd α} {wf : α → Prop} (ht : P.underlying T = some (.slice e)) (hc : P.cellsOf e = d.sz) (h : Opens P e d wf) : Opens P T (Kd.slice e d) (fun x => x.length ≤ 9223372036854775807 ∧ ∀ y ∈ x, wf y) := fun H enc w base sp held fuel cs y hy => by
  rcases Go.Deep.open_slice ht hy with ⟨rfl, _⟩ | ⟨a, len, cap, m, n, D, Pl, rfl, _, hl, hm, hmm, _, hi⟩
  · exact ⟨[], ⟨none, 0, rfl, Nat.le_refl _, rfl, by simp, fun h => absurd h (by simp)⟩, by simp, by simp⟩
  · have hlm : len ≤ m := by rw [hmm]; split <;> omega
    have hm' : cap ≤ 9223372036854775807 := hm
    have hch : ∀ i : Fin len, ∃ x : α, wf x ∧ ∃ c, c.length = d.sz ∧ d.K w x c ∧ ∀ j u, c[j]? = some u → w.cell? (a.add (i.val * d.sz + j)) = some u := fun i => by
      obtain ⟨c, hcc, hd⟩ := hi i.val (by have := i.isLt; omega)
      obtain ⟨_, hcl, hat⟩ := World.cells?_some hcc
      obtain ⟨x, hk, hx⟩ := h H enc w base sp held n c _ hd
      refine ⟨x, hx, c, by rw [hcl, hc], hk, fun j u hu => ?_⟩
      have hj : j < P.cellsOf e := by rw [← hcl]; exact (List.getElem?_eq_some_iff.1 hu).1
      have := hat j hj
      rw [hu, hc, Go.Deep.add_add] at this
      exact this
    have hx := fun i => Classical.choose_spec (hch i)
    refine ⟨List.ofFn fun i => Classical.choose (hch i), ⟨some a, cap, by rw [List.length_ofFn], by rw [List.length_ofFn]; exact hl, rfl, by rw [List.length_ofFn]; omega, fun _ => ⟨a, rfl, fun j p hp => ?_⟩⟩, by rw [List.length_ofFn]; omega, fun y hy => ?_⟩
    · obtain ⟨hj, he⟩ := List.getElem?_eq_some_iff.1 hp
      have hj' : j < len := by rw [List.length_ofFn] at hj; exact hj
      rw [List.getElem_ofFn] at he
      obtain ⟨c, h1, h2, h3⟩ := (hx ⟨j, hj'⟩).2
      rw [he] at h2
      exact ⟨c, h1, h2, h3⟩
    · obtain ⟨i, rfl⟩ := (List.mem_ofFn).1 hy
      exact (hx i).1

theorem opens_t5 : Opens Tryd.prog 5 (Kd.int .u8) (fun x => (Lit.int .u8 x).wf = true) := opens_int Tryd.underlying5
theorem opens_t22 : Opens Tryd.prog 22 (Kd.slice 5 (Kd.int .u8)) (fun x => x.length ≤ 9223372036854775807 ∧ ∀ y ∈ x, (Lit.int .u8 y).wf = true) := (opens_slice Tryd.underlying22 (by kernel_rfl) opens_t5).mono fun x h => h
theorem opens_t2 : Opens Tryd.prog 2 (Kd.int .i64) (fun x => (Lit.int .i64 x).wf = true) := opens_int Tryd.underlying2
theorem opens_t21 : Opens Tryd.prog 21 (Kd.int .i32) (fun x => (Lit.int .i32 x).wf = true) := opens_int Tryd.underlying21
def Wf38 (x : S38) : Prop := ((Lit.int .i64 x.f0).wf = true) ∧ ((Lit.int .i32 x.f1).wf = true)
theorem cells_t2 : Tryd.prog.cellsOf 2 = 1 := by kernel_rfl
theorem cells_t21 : Tryd.prog.cellsOf 21 = 1 := by kernel_rfl
theorem cells_t38 : Tryd.prog.cellsOf 38 = 2 := by kernel_rfl
theorem opens_t38 : Opens Tryd.prog 38 k38 (fun x => Wf38 x) := by
  intro H enc w base sp held fuel cs y hy
  obtain ⟨xs, n, _, _, hlen, hxl, hf⟩ := DataW.trod_struct Tryd.underlying38 hy
  rw [cells_t38] at hlen
  obtain ⟨c0, c1, rfl⟩ : ∃ c0 c1, cs = [c0, c1] := by
    match cs, hlen with
    | [c0, c1], _ => exact ⟨c0, c1, rfl⟩
  have g0 := hf 0 _ rfl
  replace g0 : DataW.trod enc Tryd.prog w base sp held n 2 (([c0, c1].drop 0).take (Tryd.prog.cellsOf 2)) = xs[0]? := g0
  rw [cells_t2] at g0
  obtain ⟨y0, e0⟩ : ∃ y, xs[0]? = some y := ⟨_, List.getElem?_eq_getElem (by rw [hxl]; decide)⟩
  rw [e0] at g0
  obtain ⟨x0, K0, W0⟩ := opens_t2 _ _ _ _ _ _ _ _ _ g0
  replace K0 : Kd.K (Kd.int .i64) w x0 [c0] := K0
  have g1 := hf 1 _ rfl
  replace g1 : DataW.trod enc Tryd.prog w base sp held n 21 (([c0, c1].drop 1).take (Tryd.prog.cellsOf 21)) = xs[1]? := g1
  rw [cells_t21] at g1
  obtain ⟨y1, e1⟩ : ∃ y, xs[1]? = some y := ⟨_, List.getElem?_eq_getElem (by rw [hxl]; decide)⟩
  rw [e1] at g1
  obtain ⟨x1, K1, W1⟩ := opens_t21 _ _ _ _ _ _ _ _ _ g1
  replace K1 : Kd.K (Kd.int .i32) w x1 [c1] := K1
  exact ⟨⟨x0, x1⟩, ⟨_, _, rfl, K0, K1⟩, ⟨W0, W1⟩⟩
theorem opens_t23 : Opens Tryd.prog 23 (Kd.slice 38 k38) (fun x => x.length ≤ 9223372036854775807 ∧ ∀ y ∈ x, Wf38 y) := (opens_slice Tryd.underlying23 (by kernel_rfl) opens_t38).mono fun x h => h
theorem opens_t4 : Opens Tryd.prog 4 Kd.bool (fun x => True) := opens_bool Tryd.underlying4
def LeapsMatchReference : Prop := ∀ (l0 : List (Int)) (l1 : List (S38)) (a2 : Bool) (a3 : Int) (a4 : Int) (w0 : l0.length ≤ 9223372036854775807 ∧ ∀ y ∈ l0, (Lit.int .u8 y).wf = true) (w1 : l1.length ≤ 9223372036854775807 ∧ ∀ y ∈ l1, Wf38 y) (w3 : (Lit.int .u8 a3).wf = true) (w4 : (Lit.int .i64 a4).wf = true), ∃ k, zoneinfolaw17_LeapsMatchReference.f k l0 l1 a2 a3 a4 = some true
def LeapsRoundTrip : Prop := ∀ (l0 : List (S38)) (l1 : List (Int)) (a2 : Bool) (w0 : l0.length ≤ 9223372036854775807 ∧ ∀ y ∈ l0, Wf38 y) (w1 : l1.length ≤ 9223372036854775807 ∧ ∀ y ∈ l1, (Lit.int .u8 y).wf = true), ∃ k, zoneinfolaw17_LeapsRoundTrip.f k l0 l1 a2 = some true
def LeapsValidity : Prop := ∀ (l0 : List (S38)) (a1 : Int) (w0 : l0.length ≤ 9223372036854775807 ∧ ∀ y ∈ l0, Wf38 y) (w1 : (Lit.int .u8 a1).wf = true), ∃ k, zoneinfolaw17_LeapsValidity.f k l0 a1 = some true
def LeapsCorrectionIsStep : Prop := ∀ (l0 : List (S38)) (a1 : Int) (w0 : l0.length ≤ 9223372036854775807 ∧ ∀ y ∈ l0, Wf38 y) (w1 : (Lit.int .i64 a1).wf = true), ∃ k, zoneinfolaw17_LeapsCorrectionIsStep.f k l0 a1 = some true
end Go.Proofs.YtiaobffdggeofaaDoor.Opn
