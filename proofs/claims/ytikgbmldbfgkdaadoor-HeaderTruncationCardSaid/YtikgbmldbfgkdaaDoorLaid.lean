/- What the row's listed variable gives a walk: its cells; and a world that meets the row's condition. -/
import Derived.Test.YtikgbmldbfgkdaaDoorRows
import Derived.Test.YtikgbmldbfgkdaaDoorGx4
import Derived.WalkKit
import Derived.ProofKit
import Derived.ChangeSame
import Derived.ChangeVars
import Derived.JoinedOf
import Derived.RowKit
import Derived.LaidLaws
import Derived.LaidHandle
set_option linter.unusedVariables false
set_option linter.unusedSimpArgs false
namespace Go.Proofs.YtikgbmldbfgkdaaDoor.Laid
open Go.ChangeShapes Go.WideShapes Go.RowKit Go.Proofs.YtikgbmldbfgkdaaDoor.G Go.Proofs.YtikgbmldbfgkdaaDoorW.PrintWords
theorem named : Tryd.prog.globalNamed "zoneinfo/header.versions" = some 0 := by kernel_rfl
theorem typed : (Tryd.prog.globals[0]?).map (·.type) = some 40 := by kernel_rfl
theorem cellsA : Tryd.prog.cellsOf 40 = 5 := by kernel_rfl
theorem cellsE : Tryd.prog.cellsOf 5 = 1 := by kernel_rfl
theorem one_of_trod {H : Type} {enc : TypeId × Value → H} {w : World} {base : Nat} {sp : Nat → Bool} {held : Bool} {fuel : Nat} {c : Value} {y : DataW H × List MemPlace}
    (h : DataW.trod enc Tryd.prog w base sp held fuel 5 [c] = some y) : ∃ n : Int, c = .int .u8 n ∧ y = (.lit (.int .u8 n), []) := by
  cases fuel with
  | zero => simp [DataW.trod] at h
  | succ fuel =>
    cases c <;> simp [DataW.trod, Tryd.underlying5] at h
    rename_i k' n
    obtain ⟨⟨rfl, _⟩, rfl⟩ := h
    exact ⟨n, rfl, rfl⟩
def cells : Array Value := #[.int .u8 0, .int .u8 0, .int .u8 50, .int .u8 51, .int .u8 52]
theorem cells_of_laid {W : World} (h : laidMetH Tryd.prog [("zoneinfo/header.versions", Rows.laid_zoneinfo_header_versions)] W) : W.var? Tryd.prog "zoneinfo/header.versions" = some cells := by
  have h' : laidMet Tryd.prog [("zoneinfo/header.versions", Rows.laid_zoneinfo_header_versions)] W := h
  obtain ⟨ps, ⟨g, t, cs, fuel, p, q, hg, ht, hvar, hd, _, _⟩, _⟩ := h'
  obtain rfl := Option.some.inj (named.symm.trans hg)
  obtain rfl := Option.some.inj (typed.symm.trans ht)
  rw [hvar]
  congr 1
  obtain ⟨l⟩ := cs
  cases fuel with
  | zero => simp [DataW.trod] at hd
  | succ fuel =>
    simp only [DataW.trod, Tryd.underlying40, cellsA, cellsE] at hd
    split at hd
    · rename_i hl
      obtain ⟨c0, c1, c2, c3, c4, rfl⟩ : ∃ c0 c1 c2 c3 c4, l = [c0, c1, c2, c3, c4] := by
        match l, hl with
        | [c0, c1, c2, c3, c4], _ => exact ⟨c0, c1, c2, c3, c4, rfl⟩
      have e : List.range 5 = [0, 1, 2, 3, 4] := rfl
      rw [e] at hd
      simp only [Option.map_eq_some_iff, List.mapM_cons, List.mapM_nil, Option.bind_eq_bind, Option.bind_eq_some_iff, Option.pure_def, Option.some.injEq] at hd
      obtain ⟨xs, ⟨y0, h0, _, ⟨y1, h1, _, ⟨y2, h2, _, ⟨y3, h3, _, ⟨y4, h4, _, rfl, rfl⟩, rfl⟩, rfl⟩, rfl⟩, rfl⟩, hx⟩ := hd
      obtain ⟨n0, rfl, rfl⟩ := one_of_trod h0
      obtain ⟨n1, rfl, rfl⟩ := one_of_trod h1
      obtain ⟨n2, rfl, rfl⟩ := one_of_trod h2
      obtain ⟨n3, rfl, rfl⟩ := one_of_trod h3
      obtain ⟨n4, rfl, rfl⟩ := one_of_trod h4
      simp [Rows.laid_zoneinfo_header_versions] at hx
      obtain ⟨⟨rfl, rfl, rfl, rfl, rfl⟩, _⟩ := hx
      rfl
    · cases hd
theorem gl_of_laid {W : World} (h : laidMetH Tryd.prog [("zoneinfo/header.versions", Rows.laid_zoneinfo_header_versions)] W) : GL W := by
  have hvar := cells_of_laid h
  refine Kd.C_of_reads (d := (0 : Int)) (h1 := fun _ => rfl) ⟨rfl, by decide, fun _ => ⟨_, rfl, fun j hj => ?_⟩⟩
  rw [Go.Proofs.YtikgbmldbfgkdaaDoorW.PrintWords.add_plain]
  refine (World.var?_cell named hvar j).trans ?_
  have hj' : j < 5 := hj
  have : j = 0 ∨ j = 1 ∨ j = 2 ∨ j = 3 ∨ j = 4 := by omega
  rcases this with rfl | rfl | rfl | rfl | rfl <;> rfl
/-- A world that meets the condition. -/
noncomputable def world (os : Os) : World :=
  { World.holding Tryd.prog os ⟨#[], #[], []⟩ with heap := (World.holding Tryd.prog os ⟨#[], #[], []⟩).heap.modify 0 fun
      | .cells _ t frozen => .cells cells t frozen
      | o => o }
theorem world_row (os : Os) (args : Array Value) : ((world os).forCall (fun _ _ => 0) ⟨#[], args, []⟩).memory.heap[0]? = some (.cells cells 40 (0, 0)) := by kernel_rfl
theorem world_met (os : Os) (args : Array Value) : laidMetH Tryd.prog [("zoneinfo/header.versions", Rows.laid_zoneinfo_header_versions)] ((world os).forCall (fun _ _ => 0) ⟨#[], args, []⟩).memory := by
  show laidMet Tryd.prog [("zoneinfo/header.versions", Rows.laid_zoneinfo_header_versions)] _
  refine ⟨_, ⟨0, 40, cells, 8, [], [], by kernel_rfl, by kernel_rfl, by kernel_rfl, by kernel_rfl, rfl, rfl⟩, by decide, fun b off h => ?_⟩
  have h' : MemPlace.cell b off ∈ [MemPlace.cell 0 0, .cell 0 1, .cell 0 2, .cell 0 3, .cell 0 4] := h
  have hb : b = 0 := by
    simp at h'
    omega
  subst hb
  refine ⟨⟨_, _, world_row os args⟩, fun u v hc => ?_⟩
  simp only [World.cell?, world_row os args] at hc
  simp at h'
  rcases h' with rfl | rfl | rfl | rfl | rfl <;> simp [cells] at hc
end Go.Proofs.YtikgbmldbfgkdaaDoor.Laid
