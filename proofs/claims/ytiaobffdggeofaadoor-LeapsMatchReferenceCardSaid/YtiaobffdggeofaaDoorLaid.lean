/- What the row's listed variable (the table of the rules of leap seconds) gives a walk: its cells; and a world that meets the row's condition. -/
import Derived.Test.YtiaobffdggeofaaDoorRows
import Derived.WalkKit
import Derived.ProofKit
import Derived.ChangeSame
import Derived.ChangeVars
import Derived.ChangeArms
import Derived.JoinedOf
import Derived.RowKit
import Derived.LaidLaws
import Derived.LaidHandle
import Derived.LaidMore
import Derived.Stop.Joined
import Derived.Deep.Slices
import Derived.Test.YtiaobffdggeofaaDoorWWords
import Derived.Test.YtiaobffdggeofaaDoorWMore
import Derived.Test.YtiaobffdggeofaaDoorOwn
import Derived.Test.YtiaobffdggeofaaDoorGx4
-- GX leaps_Valid.f
set_option linter.unusedVariables false
set_option linter.unusedSimpArgs false
namespace Go.Proofs.YtiaobffdggeofaaDoor.Laid
open Go.ChangeShapes Go.WideShapes Go.RowKit Go.Proofs.YtiaobffdggeofaaDoor.G Go.Proofs.YtiaobffdggeofaaDoorW.PrintWords
theorem named : Tryd.prog.globalNamed "zoneinfo/leaps.rules" = some 0 := by kernel_rfl
theorem typed : (Tryd.prog.globals[0]?).map (·.type) = some 45 := by kernel_rfl
theorem cells48 : Tryd.prog.cellsOf 48 = 2 := by kernel_rfl
theorem cells9 : Tryd.prog.cellsOf 9 = 1 := by kernel_rfl
theorem cells46 : Tryd.prog.cellsOf 46 = 1 := by kernel_rfl
/-- A world that meets the condition. -/
theorem world_met (os : Os) (args : Array Value) : laidMetH Tryd.prog [("zoneinfo/leaps.rules", Rows.laid_zoneinfo_leaps_rules)] ((World.doorLaid Tryd.prog 600 os).forCall (fun _ _ => 0) ⟨#[], args, []⟩).memory :=
  laidMetH_of_parts3 (fuel := 8) (laidMet_of_run' 8 (by kernel_rfl) (by kernel_rfl)) (by kernel_rfl) (by kernel_rfl)
/-- One record of the table. -/
theorem rule_cells {W : World} {fuel : Nat} {cs : List Value} {ps : List MemPlace} {s : List UInt8} {b : UInt8} {r : List UInt8} {f0 : FuncId}
    (hone : ((List.range Tryd.prog.funcs.size).filter fun f => (Tryd.prog.funcs[f]?).any (·.name.toUTF8.data.toList == b :: r)) = [f0])
    (h : DataW.trod (funcToken Tryd.prog) Tryd.prog W 0 (fun _ => true) true fuel 48 cs = some (.agg [.lit (.string s), .held (b :: r)], ps)) :
    cs = [.string ⟨⟨s⟩⟩, ruleFn f0] := by
  obtain ⟨xs, n, _, hx, hlen, hxl, hf⟩ := DataW.trod_struct Tryd.underlying48 h
  rw [cells48] at hlen
  obtain ⟨c0, c1, rfl⟩ : ∃ c0 c1, cs = [c0, c1] := by
    match cs, hlen with
    | [c0, c1], _ => exact ⟨c0, c1, rfl⟩
  obtain ⟨y0, y1, rfl⟩ : ∃ y0 y1, xs = [y0, y1] := by
    match xs, hxl with
    | [y0, y1], _ => exact ⟨y0, y1, rfl⟩
  have g0 := hf 0 _ rfl
  have g1 := hf 1 _ rfl
  replace g0 : DataW.trod (funcToken Tryd.prog) Tryd.prog W 0 (fun _ => true) true n 9 (([c0, c1].drop 0).take (Tryd.prog.cellsOf 9)) = some y0 := g0
  replace g1 : DataW.trod (funcToken Tryd.prog) Tryd.prog W 0 (fun _ => true) true n 46 (([c0, c1].drop 1).take (Tryd.prog.cellsOf 46)) = some y1 := g1
  rw [cells9] at g0
  rw [cells46] at g1
  replace g0 : DataW.trod (funcToken Tryd.prog) Tryd.prog W 0 (fun _ => true) true n 9 [c0] = some y0 := g0
  replace g1 : DataW.trod (funcToken Tryd.prog) Tryd.prog W 0 (fun _ => true) true n 46 [c1] = some y1 := g1
  simp only [List.map_cons, List.map_nil, Prod.mk.injEq, DataW.agg.injEq, List.cons.injEq, and_true] at hx
  obtain ⟨⟨e0, e1⟩, _⟩ := hx
  obtain ⟨t, e2, e3, _⟩ := DataW.trod_string Tryd.underlying9 g0
  subst e3
  obtain rfl : c0 = .string t := by simpa using e2
  have e4 : s = t.data.toList := by simpa using e0
  obtain ⟨u, p1⟩ := y1
  simp only at e1
  rw [← e1] at g1
  obtain rfl := Go.func_of_trod (f0 := f0) Tryd.underlying46 hone g1
  subst e4
  rfl
theorem gl_of_laid {W : World} (h : laidMetH Tryd.prog [("zoneinfo/leaps.rules", Rows.laid_zoneinfo_leaps_rules)] W) : GL W := by
  obtain ⟨g, t, cs, fuel, p, hg, ht, hv, hd⟩ := h.funcs (List.mem_singleton.2 rfl)
  obtain rfl := Option.some.inj (named.symm.trans hg)
  obtain rfl := Option.some.inj (typed.symm.trans ht)
  have hd' : DataW.trod (funcToken Tryd.prog) Tryd.prog W 0 (fun _ => true) true fuel 45 cs.toList = some (.slice [.agg [.lit (.string [116, 105, 109, 101]), .held [122, 111, 110, 101, 105, 110, 102, 111, 47, 108, 101, 97, 112, 115, 46, 114, 117, 108, 101, 115, 36, 49]], .agg [.lit (.string [102, 105, 114, 115, 116, 32, 99, 111, 114, 114, 101, 99, 116, 105, 111, 110]), .held [122, 111, 110, 101, 105, 110, 102, 111, 47, 108, 101, 97, 112, 115, 46, 114, 117, 108, 101, 115, 36, 50]], .agg [.lit (.string [115, 116, 101, 112]), .held [122, 111, 110, 101, 105, 110, 102, 111, 47, 108, 101, 97, 112, 115, 46, 114, 117, 108, 101, 115, 36, 51]]] [], p) := hd
  rcases Go.Deep.open_slice Tryd.underlying45 hd' with ⟨_, hx⟩ | ⟨a, len, cap, m, n, D, Pl, hcs, _, hl, hm, hmm, hx, hi⟩
  · simp at hx
  · simp only [Prod.mk.injEq, DataW.slice.injEq] at hx
    obtain ⟨⟨hD, _⟩, _⟩ := hx
    have hlen : len = 3 := by have := congrArg List.length hD; simpa using this.symm
    subst hlen
    have hm3 : 3 ≤ m := by rw [hmm]; split <;> omega
    simp only [List.range_succ, List.range_zero, List.nil_append, List.cons_append, List.map_cons, List.map_nil, List.cons.injEq, and_true] at hD
    obtain ⟨d0, d1, d2⟩ := hD
    have at_ : ∀ i, i < 3 → ∀ {s : List UInt8} {b : UInt8} {r : List UInt8} {f0 : FuncId}, ((List.range Tryd.prog.funcs.size).filter fun f => (Tryd.prog.funcs[f]?).any (·.name.toUTF8.data.toList == b :: r)) = [f0] →
        .agg [.lit (.string s), .held (b :: r)] = D i → ∀ j u, [Value.string ⟨⟨s⟩⟩, ruleFn f0][j]? = some u → W.cell? (a.add (i * 2 + j)) = some u := by
      intro i hi3 s b r f0 hone he j u hu
      obtain ⟨c, hc, hr⟩ := hi i (by omega)
      rw [cells48] at hc
      rw [← he] at hr
      have hc2 := rule_cells hone hr
      subst hc2
      obtain ⟨_, _, hat⟩ := World.cells?_some hc
      have hj : j < 2 := (List.getElem?_eq_some_iff.1 hu).1
      have := hat j hj
      rw [hu, Go.Deep.add_add] at this
      exact this
    have c0 := at_ 0 (by omega) (f0 := 48) (by kernel_rfl) d0
    have c1 := at_ 1 (by omega) (f0 := 49) (by kernel_rfl) d1
    have c2 := at_ 2 (by omega) (f0 := 50) (by kernel_rfl) d2
    have hg0 := World.var?_cell hg hv 0
    have hcs2 : cs = #[.slice (some a) 3 cap] := Array.eq_one_of_toList hcs
    rw [hcs2] at hg0
    have hm' : cap ≤ 9223372036854775807 := hm
    refine ⟨rfl, by decide, fun _ => ⟨_, rfl, fun j p hj => ?_⟩⟩
    have hj1 : j < 1 := (List.getElem?_eq_some_iff.1 hj).1
    obtain rfl : j = 0 := by omega
    obtain rfl : p = [(⟨#[116, 105, 109, 101]⟩, 48), (⟨#[102, 105, 114, 115, 116, 32, 99, 111, 114, 114, 101, 99, 116, 105, 111, 110]⟩, 49), (⟨#[115, 116, 101, 112]⟩, 50)] := (Option.some.inj hj).symm
    refine ⟨[.slice (some a) 3 cap], rfl, ⟨some a, cap, rfl, hl, ⟨rfl, by decide, fun _ => ⟨a, rfl, fun j p hj => ?_⟩⟩⟩, fun i u hu => ?_⟩
    · have hj3 : j < 3 := (List.getElem?_eq_some_iff.1 hj).1
      have hjs : j = 0 ∨ j = 1 ∨ j = 2 := by omega
      rcases hjs with rfl | rfl | rfl
      · obtain rfl := Option.some.inj hj
        exact ⟨_, rfl, ⟨_, _, rfl, rfl, rfl⟩, c0⟩
      · obtain rfl := Option.some.inj hj
        exact ⟨_, rfl, ⟨_, _, rfl, rfl, rfl⟩, c1⟩
      · obtain rfl := Option.some.inj hj
        exact ⟨_, rfl, ⟨_, _, rfl, rfl, rfl⟩, c2⟩
    · have hi1 : i < 1 := (List.getElem?_eq_some_iff.1 hu).1
      obtain rfl : i = 0 := by omega
      obtain rfl := Option.some.inj hu
      exact hg0
end Go.Proofs.YtiaobffdggeofaaDoor.Laid
