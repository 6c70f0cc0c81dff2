/- How data of this seat's parameters open, and the laws' pure statements. -/
import Derived.Test.YtchlggnbgabddaaGx0
import Derived.Deep.Slices
import Derived.Deep.Fields
import Derived.ChangeSame
import Derived.ChangeArms
set_option linter.unusedVariables false
namespace Go.Proofs.Ytchlggnbgabddaa.Opn
open Go Go.ChangeShapes Go.WideShapes Go.RowKit Go.Proofs.YtchlggnbgabddaaW.PrintWords Go.Proofs.Ytchlggnbgabddaa.G

def Opens (P : Program) (T : TypeId) {α : Type} (d : Kd α) (wf : α → Prop) : Prop :=
  ∀ (H : Type) (enc : TypeId × Value → H) (w : World) (base : Nat) (sp : Nat → Bool) (held : Bool) (fuel : Nat) (cs : List Value) (y : DataW H × List MemPlace), DataW.trod enc P w base sp held fuel T cs = some y → ∃ x, d.K w x cs ∧ wf x
theorem Opens.mono {P : Program} {T : TypeId} {α : Type} {d : Kd α} {wf wf' : α → Prop} (h : Opens P T d wf) (hw : ∀ x, wf x → wf' x) : Opens P T d wf' := fun H enc w base sp held fuel cs y hy => by
  obtain ⟨x, hk, hx⟩ := h H enc w base sp held fuel cs y hy
  exact ⟨x, hk, hw x hx⟩
theorem opens_int {P : Program} {T : TypeId} {k : IntKind} (ht : P.underlying T = some (.int k)) : Opens P T (Kd.int k) (fun x => (Lit.int k x).wf = true) := fun H enc w base sp held fuel cs y hy => by
  obtain ⟨n, rfl, _, hn⟩ := DataW.trod_int ht hy
  exact ⟨n, rfl, hn⟩
theorem opens_bool {P : Program} {T : TypeId} (ht : P.underlying T = some .bool) : Opens P T Kd.bool (fun _ => True) := fun H enc w base sp held fuel cs y hy => by
  obtain ⟨n, rfl, _⟩ := DataW.trod_bool ht hy
  exact ⟨n, rfl, trivial⟩
theorem opens_string {P : Program} {T : TypeId} (ht : P.underlying T = some .string) : Opens P T Kd.string (fun x => x.size ≤ 9223372036854775807) := fun H enc w base sp held fuel cs y hy => by
  obtain ⟨n, rfl, _, hn⟩ := DataW.trod_string ht hy
  exact ⟨n, rfl, hn⟩
theorem opens_slice {P : Program} {T e : TypeId} {α : Type} {d : Kd α} {wf : α → Prop} (ht : P.underlying T = some (.slice e)) (hc : P.cellsOf e = d.sz) (h : Opens P e d wf) : Opens P T (Kd.slice e d) (fun x => x.length ≤ 9223372036854775807 ∧ ∀ y ∈ x, wf y) := fun H enc w base sp held fuel cs y hy => by
  rcases Go.Deep.open_slice ht hy with ⟨rfl, _⟩ | ⟨a, len, cap, m, n, D, Pl, rfl, _, hl, hm, hmm, _, hi⟩
  · exact ⟨[], ⟨none, 0, rfl, Nat.le_refl _, rfl, by simp, fun h => absurd h (by simp)⟩, by simp, by simp⟩
  · have hlm : len ≤ m := by rw [hmm]; split <;> omega
    have hm' : cap ≤ 9223372036854775807 := hm
    have hch : ∀ i : Fin len, ∃ x : α, wf x ∧ ∃ c, c.length = d.sz ∧ d.K w x c ∧ ∀ j u, c[j]? = some u → w.cell? (a.add (i.val * d.sz + j)) = some u := fun i => by
      obtain ⟨c, hcc, hd⟩ := hi i.val (by have := i.isLt; omega)
      obtain ⟨_, hcl, hat⟩ := World.cells?_some hcc
      obtain ⟨x, hk, hx⟩ := h H enc w base sp held n c _ hd
      refine ⟨x, hx, c, by rw [hcl, hc], hk, fun j u hu => ?_⟩
      have hj : j < P.cellsOf e := by rw [← hcl]; exact (List.getElem?_eq_some_iff.1 hu).1
      have := hat j hj
      rw [hu, hc, Go.Deep.add_add] at this
      exact this
    have hx := fun i => Classical.choose_spec (hch i)
    refine ⟨List.ofFn fun i => Classical.choose (hch i), ⟨some a, cap, by rw [List.length_ofFn], by rw [List.length_ofFn]; exact hl, rfl, by rw [List.length_ofFn]; omega, fun _ => ⟨a, rfl, fun j p hp => ?_⟩⟩, by rw [List.length_ofFn]; omega, fun y hy => ?_⟩
    · obtain ⟨hj, he⟩ := List.getElem?_eq_some_iff.1 hp
      have hj' : j < len := by rw [List.length_ofFn] at hj; exact hj
      rw [List.getElem_ofFn] at he
      obtain ⟨c, h1, h2, h3⟩ := (hx ⟨j, hj'⟩).2
      rw [he] at h2
      exact ⟨c, h1, h2, h3⟩
    · obtain ⟨i, rfl⟩ := (List.mem_ofFn).1 hy
      exact (hx i).1

theorem opens_t5 : Opens Try.prog 5 (Kd.int .u8) (fun x => (Lit.int .u8 x).wf = true) := opens_int Try.underlying5
theorem opens_t22 : Opens Try.prog 22 (Kd.slice 5 (Kd.int .u8)) (fun x => x.length ≤ 9223372036854775807 ∧ ∀ y ∈ x, (Lit.int .u8 y).wf = true) := (opens_slice Try.underlying22 (by kernel_rfl) opens_t5).mono fun x h => h
theorem opens_t3 : Opens Try.prog 3 (Kd.int .i64) (fun x => (Lit.int .i64 x).wf = true) := opens_int Try.underlying3
theorem opens_t9 : Opens Try.prog 9 Kd.string (fun x => x.size ≤ 9223372036854775807) := opens_string Try.underlying9
theorem opens_t23 : Opens Try.prog 23 (Kd.slice 9 Kd.string) (fun x => x.length ≤ 9223372036854775807 ∧ ∀ y ∈ x, y.size ≤ 9223372036854775807) := (opens_slice Try.underlying23 (by kernel_rfl) opens_t9).mono fun x h => h
end Go.Proofs.Ytchlggnbgabddaa.Opn
