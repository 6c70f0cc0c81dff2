/- What the row's listed variable gives a walk: its cells; and a world that meets the row's condition. -/
import Derived.Test.YtbiglbdanppjpaaDoorRows
import Derived.Test.YtbiglbdanppjpaaDoorGx1
import Derived.WalkKit
import Derived.ProofKit
import Derived.ChangeSame
import Derived.ChangeVars
import Derived.JoinedOf
import Derived.RowKit
import Derived.LaidLaws
import Derived.LaidHandle
set_option linter.unusedVariables false
set_option linter.unusedSimpArgs false
namespace Go.Proofs.YtbiglbdanppjpaaDoor.Laid
open Go.ChangeShapes Go.WideShapes Go.RowKit Go.Proofs.YtbiglbdanppjpaaDoor.G Go.Proofs.YtbiglbdanppjpaaDoorW.PrintWords
theorem named : Tryd.prog.globalNamed "zoneinfo/indicators.flags" = some 0 := by kernel_rfl
theorem typed : (Tryd.prog.globals[0]?).map (·.type) = some 34 := by kernel_rfl
theorem cellsA : Tryd.prog.cellsOf 34 = 2 := by kernel_rfl
theorem cellsE : Tryd.prog.cellsOf 4 = 1 := by kernel_rfl
theorem one_of_trod {H : Type} {enc : TypeId × Value → H} {w : World} {base : Nat} {sp : Nat → Bool} {held : Bool} {fuel : Nat} {c : Value} {y : DataW H × List MemPlace}
    (h : DataW.trod enc Tryd.prog w base sp held fuel 4 [c] = some y) : ∃ n : Bool, c = .bool n ∧ y = (.lit (.bool n), []) := by
  cases fuel with
  | zero => simp [DataW.trod] at h
  | succ fuel =>
    cases c <;> simp [DataW.trod, Tryd.underlying4] at h
    rename_i n
    obtain rfl := h
    exact ⟨n, rfl, rfl⟩
def cells : Array Value := #[.bool false, .bool true]
theorem cells_of_laid {W : World} (h : laidMetH Tryd.prog [("zoneinfo/indicators.flags", Rows.laid_zoneinfo_indicators_flags)] W) : W.var? Tryd.prog "zoneinfo/indicators.flags" = some cells := by
  have h' : laidMet Tryd.prog [("zoneinfo/indicators.flags", Rows.laid_zoneinfo_indicators_flags)] W := h
  obtain ⟨ps, ⟨g, t, cs, fuel, p, q, hg, ht, hvar, hd, _, _⟩, _⟩ := h'
  obtain rfl := Option.some.inj (named.symm.trans hg)
  obtain rfl := Option.some.inj (typed.symm.trans ht)
  rw [hvar]
  congr 1
  obtain ⟨l⟩ := cs
  cases fuel with
  | zero => simp [DataW.trod] at hd
  | succ fuel =>
    simp only [DataW.trod, Tryd.underlying34, cellsA, cellsE] at hd
    split at hd
    · rename_i hl
      obtain ⟨c0, c1, rfl⟩ : ∃ c0 c1, l = [c0, c1] := by
        match l, hl with
        | [c0, c1], _ => exact ⟨c0, c1, rfl⟩
      have e : List.range 2 = [0, 1] := rfl
      rw [e] at hd
      simp only [Option.map_eq_some_iff, List.mapM_cons, List.mapM_nil, Option.bind_eq_bind, Option.bind_eq_some_iff, Option.pure_def, Option.some.injEq] at hd
      obtain ⟨xs, ⟨y0, h0, _, ⟨y1, h1, _, rfl, rfl⟩, rfl⟩, hx⟩ := hd
      obtain ⟨n0, rfl, rfl⟩ := one_of_trod h0
      obtain ⟨n1, rfl, rfl⟩ := one_of_trod h1
      simp [Rows.laid_zoneinfo_indicators_flags] at hx
      obtain ⟨⟨rfl, rfl⟩, _⟩ := hx
      rfl
    · cases hd
theorem gl_of_laid {W : World} (h : laidMetH Tryd.prog [("zoneinfo/indicators.flags", Rows.laid_zoneinfo_indicators_flags)] W) : GL W := by
  have hvar := cells_of_laid h
  refine Kd.C_of_reads (d := false) (h1 := fun _ => rfl) ⟨rfl, by decide, fun _ => ⟨_, rfl, fun j hj => ?_⟩⟩
  rw [Go.Proofs.YtbiglbdanppjpaaDoorW.PrintWords.add_plain]
  refine (World.var?_cell named hvar j).trans ?_
  have hj' : j < 2 := hj
  have : j = 0 ∨ j = 1 := by omega
  rcases this with rfl | rfl <;> rfl
/-- A world that meets the condition. -/
noncomputable def world (os : Os) : World :=
  { World.holding Tryd.prog os ⟨#[], #[], []⟩ with heap := (World.holding Tryd.prog os ⟨#[], #[], []⟩).heap.modify 0 fun
      | .cells _ t frozen => .cells cells t frozen
      | o => o }
theorem world_row (os : Os) (args : Array Value) : ((world os).forCall (fun _ _ => 0) ⟨#[], args, []⟩).memory.heap[0]? = some (.cells cells 34 (0, 0)) := by kernel_rfl
theorem world_met (os : Os) (args : Array Value) : laidMetH Tryd.prog [("zoneinfo/indicators.flags", Rows.laid_zoneinfo_indicators_flags)] ((world os).forCall (fun _ _ => 0) ⟨#[], args, []⟩).memory := by
  show laidMet Tryd.prog [("zoneinfo/indicators.flags", Rows.laid_zoneinfo_indicators_flags)] _
  refine ⟨_, ⟨0, 34, cells, 8, [], [], by kernel_rfl, by kernel_rfl, by kernel_rfl, by kernel_rfl, rfl, rfl⟩, by decide, fun b off h => ?_⟩
  have h' : MemPlace.cell b off ∈ [MemPlace.cell 0 0, .cell 0 1] := h
  have hb : b = 0 := by
    simp at h'
    omega
  subst hb
  refine ⟨⟨_, _, world_row os args⟩, fun u v hc => ?_⟩
  simp only [World.cell?, world_row os args] at hc
  simp at h'
  rcases h' with rfl | rfl <;> simp [cells] at hc
end Go.Proofs.YtbiglbdanppjpaaDoor.Laid
