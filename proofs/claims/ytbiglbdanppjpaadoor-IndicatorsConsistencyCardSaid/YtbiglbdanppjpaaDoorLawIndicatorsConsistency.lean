/- The row of the law 'IndicatorsConsistency' and its tied card, out of its plain part and the walk of its Go text: for every input the call returns true and its arguments read as before. Condition: none beyond the row's own (the listed variable holds what the program's text lays). -/
import Derived.Test.YtbiglbdanppjpaaDoorRows
import Derived.Test.YtbiglbdanppjpaaDoorGx5
import Derived.Test.YtbiglbdanppjpaaDoorPureIndicatorsConsistency
import Derived.Test.YtbiglbdanppjpaaDoorLaid
import Derived.Test.YtbiglbdanppjpaaDoorTie
import Derived.Test.YtbiglbdanppjpaaDoorCards
import Derived.WalkKit
import Derived.ProofKit
import Derived.OpenShut
import Derived.ShutString
import Derived.ChangeOld
import Derived.Below
import Derived.SizedLaws
import Derived.ChangeSame
import Derived.ChangeArms
import Derived.WideShapes
import Derived.SevenTiedAt
import Derived.RowKitTokens
import Derived.Stop.Joined
import Derived.Test.YtbiglbdanppjpaaDoorWSized
import Derived.Deep.Grids
namespace Go.Proofs.YtbiglbdanppjpaaDoor.indicatorsConsistency
open Go.ChangeShapes Go.WideShapes Go.ChangeAt Go.RowKit
open Go.ChangeMaps (open_string shut_string)
set_option linter.unusedVariables false
theorem own : ownKnob Tryd.prog.godebug = none := by kernel_rfl
theorem laidOut : laidOutB Tryd.prog = true := by kernel_rfl
def IsRow (k : IntKind) (w : World) (a : Option Addr) (len cap : Nat) (zs : List Int) : Prop :=
  (a = none ∧ len = 0 ∧ cap = 0 ∧ zs = []) ∨
  ∃ x, a = some x ∧ len ≤ cap ∧ cap ≤ maxLen ∧ zs.length = cap ∧ (∀ i, i < zs.length → w.cell? (x.add i) = some (.int k (zs.getD i 0))) ∧ ∀ n ∈ zs, (Lit.int k n).wf = true
def IsBoolRow (w : World) (a : Option Addr) (len cap : Nat) (zs : List Bool) : Prop :=
  (a = none ∧ len = 0 ∧ cap = 0 ∧ zs = []) ∨
  ∃ x, a = some x ∧ len ≤ cap ∧ cap ≤ maxLen ∧ zs.length = cap ∧ ∀ i, i < zs.length → w.cell? (x.add i) = some (.bool (zs.getD i false))
theorem bool_cells {w : World} {x : Addr} {n : Nat} {B : Nat → Bool} (h : ∀ i, i < n → w.cell? (x.add i) = some (.bool (B i))) : ∀ i, i < ((List.range n).map B).length → w.cell? (x.add i) = some (.bool (((List.range n).map B).getD i false)) := by
  intro i hi
  have hi' : i < n := by simpa using hi
  rw [h i hi']
  simp [List.getD, hi']
theorem sized_bools {H : Type} {enc : TypeId × Value → H} {P : Program} {W : World} {base : Nat} {held : Bool} {t e : TypeId} {a : Option Addr} {len cap : Nat} {d : DataW H} {ps : List MemPlace} {ts : List TypeId} {ds : List (DataW H)} {j : Nat}
    (hsz : (DataW.weightsEach P ts ds).all (· ≤ reachBytes) = true) (ht : ts[j]? = some t) (hd : ds[j]? = some d) (hu : P.underlying t = some (.slice e)) (he : P.underlying e = some .bool) (hc : P.cellsOf e = 1) {B : Nat} (hB : P.bytesOf e = B)
    (h : DataW.Trod enc P W base (fun _ => true) held t (.slice a len cap) d ps) : len * B ≤ 140737488351232 := by
  obtain ⟨fuel, hf⟩ := h
  rcases Go.Deep.open_bools hu he hc hf with ⟨hcs, _⟩ | ⟨x, l, c, Bf, hcs, _, hl, _, hx, _⟩
  · simp [Value.cells] at hcs
    obtain ⟨rfl, rfl, rfl⟩ := hcs
    simp
  · simp [Value.cells] at hcs
    obtain ⟨rfl, rfl, rfl⟩ := hcs
    obtain ⟨hx, _⟩ := Prod.mk.inj hx
    subst hx
    have z := sized_slice hsz ht (show ds[j]? = some (.slice ((List.range len).map fun i => .lit (.bool (Bf i))) ((List.range (cap - len)).map fun j => .lit (.bool (Bf (len + j))))) from hd) hu
    rw [hB] at z
    simp only [List.length_map, List.length_range] at z
    exact Nat.le_trans (Nat.mul_le_mul_right _ (by omega)) z
set_option maxRecDepth 100000 in
theorem lifted (os : Os) (started : os.Started) (H : Type) (enc : TypeId × Value → H) :
    ReturnsInHanded {} Tryd.checked os 5 .any (fun w args => (Rows.indicatorsConsistencySpec.pre enc Tryd.prog Tryd.f5 [] false w args ∧ laidMetH Tryd.prog [("zoneinfo/indicators.flags", Rows.laid_zoneinfo_indicators_flags)] w) ∧ sizedMet enc Tryd.prog Tryd.f5 (OpenSpec.ofChange Rows.indicatorsConsistencySpec) false w args)
      (Rows.indicatorsConsistencySpec.post enc Tryd.prog Tryd.f5 false true false false) := by
  refine returnsInHanded_of_change_and (C := Tryd.checked) (X := fun w _ => laidMetH Tryd.prog [("zoneinfo/indicators.flags", Rows.laid_zoneinfo_indicators_flags)] w) (fun _ _ _ hh h => laidMet.of_heap hh h) own started (by kernel_rfl) Tryd.func5
    (ChangeSpec.witness_at (enc := enc) (C := Tryd.checked) (os := os) (X := fun w _ => laidMetH Tryd.prog [("zoneinfo/indicators.flags", Rows.laid_zoneinfo_indicators_flags)] w) false (Laid.world os) #[.slice none 0 0, .slice none 0 0, .int .u16 0] 8 rfl (by kernel_rfl) (by kernel_rfl) (by kernel_rfl) (by kernel_rfl) (by kernel_rfl) (Laid.world_met os _)) ?_
  intro W base args ds gs before hval0 hW hcnd hsz0 hL _
  have hgl := Laid.gl_of_laid hL
  have hsz : (DataW.weightsEach Tryd.prog (Tryd.f5.params.toList ++ Rows.indicatorsConsistencySpec.plain.varTypes Tryd.prog) (ds ++ gs)).all (· ≤ reachBytes) = true := hsz0
  have hval : ∀ (j : Nat) t v, Tryd.f5.params[j]? = some t → args[j]? = some v → Value.okWide Tryd.prog W .any base t v := hval0
  have hW' := hW
  obtain ⟨p, q, hA0, hV, rfl, hfz, hnd⟩ := hW
  have hA : DataW.TrodAll enc Tryd.prog W 0 (fun _ => true) true Tryd.f5.params.toList args.toList ds p := hA0
  rw [Tryd.params5] at hA hval hsz
  obtain ⟨v0, vs0, d0, ds0, p0, q0, hargs, rfl, rfl, h0, r0⟩ := trodAll_cons hA
  obtain ⟨v1, vs1, d1, ds1, p1, q1, rfl, rfl, rfl, h1, r1⟩ := trodAll_cons r0
  obtain ⟨v2, vs2, d2, ds2, p2, q2, rfl, rfl, rfl, h2, r2⟩ := trodAll_cons r1
  obtain ⟨rfl, rfl, rfl⟩ := trodAll_nil r2
  obtain rfl : args = #[v0, v1, v2] := by cases args; simp_all
  obtain ⟨rfl, rfl⟩ := trodVars_none hV
  obtain ⟨a0, len0, cap0, rfl⟩ := okWide_slice Tryd.underlying23 (hval 0 23 v0 rfl rfl)
  have k0 := h0
  have lt0 : ∀ x ∈ p0, x.block < W.heap.size := by obtain ⟨m, hm⟩ := k0; exact DataW.trod_lt m _ _ _ hm
  obtain ⟨z0, w0⟩ : ∃ zs, IsBoolRow W a0 len0 cap0 zs := by
    obtain ⟨fuel, hf⟩ := h0
    rcases Go.Deep.open_bools Tryd.underlying23 Tryd.underlying4 (by kernel_rfl) hf with ⟨hcs, _⟩ | ⟨x, l, c, B, hcs, _, hl, hm, _, hcell⟩
    · simp [Value.cells] at hcs
      obtain ⟨rfl, rfl, rfl⟩ := hcs
      exact ⟨[], .inl ⟨rfl, rfl, rfl, rfl⟩⟩
    · simp [Value.cells] at hcs
      obtain ⟨rfl, rfl, rfl⟩ := hcs
      exact ⟨(List.range cap0).map B, .inr ⟨_, rfl, hl, hm, by simp, bool_cells hcell⟩⟩
  have y0 : len0 * 1 ≤ 140737488351232 := sized_bools hsz (j := 0) (t := 23) rfl rfl Tryd.underlying23 Tryd.underlying4 (by kernel_rfl) (by kernel_rfl) h0
  obtain ⟨a1, len1, cap1, rfl⟩ := okWide_slice Tryd.underlying23 (hval 1 23 v1 rfl rfl)
  have k1 := h1
  have lt1 : ∀ x ∈ p1, x.block < W.heap.size := by obtain ⟨m, hm⟩ := k1; exact DataW.trod_lt m _ _ _ hm
  obtain ⟨z1, w1⟩ : ∃ zs, IsBoolRow W a1 len1 cap1 zs := by
    obtain ⟨fuel, hf⟩ := h1
    rcases Go.Deep.open_bools Tryd.underlying23 Tryd.underlying4 (by kernel_rfl) hf with ⟨hcs, _⟩ | ⟨x, l, c, B, hcs, _, hl, hm, _, hcell⟩
    · simp [Value.cells] at hcs
      obtain ⟨rfl, rfl, rfl⟩ := hcs
      exact ⟨[], .inl ⟨rfl, rfl, rfl, rfl⟩⟩
    · simp [Value.cells] at hcs
      obtain ⟨rfl, rfl, rfl⟩ := hcs
      exact ⟨(List.range cap1).map B, .inr ⟨_, rfl, hl, hm, by simp, bool_cells hcell⟩⟩
  have y1 : len1 * 1 ≤ 140737488351232 := sized_bools hsz (j := 1) (t := 23) rfl rfl Tryd.underlying23 Tryd.underlying4 (by kernel_rfl) (by kernel_rfl) h1
  obtain ⟨a2, rfl, rfl, rfl, w2⟩ := open_int Tryd.underlying31 (hval 2 31 v2 rfl rfl) h2
  clear hA0 hval0 hsz0 hsz
  refine (G.zoneinfolaw18_IndicatorsConsistency.walk Pure.IndicatorsConsistency a0 len0 cap0 z0 a1 len1 cap1 z1 a2 W hgl w0 y0 w1 y1 w2).mono fun e W' ⟨he, bel⟩ => ?_
  subst he
  exact ⟨_, rfl, _, _, _, [], _, [], hW', trodAll_mk1 (shut_bool Tryd.underlying4 _), (trodAll_cons_mk (Below.trod laidOut (by kernel_rfl) (of_decide_eq_true (by kernel_rfl)) k0 bel lt0) (trodAll_cons_mk (Below.trod laidOut (by kernel_rfl) (of_decide_eq_true (by kernel_rfl)) k1 bel lt1) (trodAll_cons_mk (shut_int Tryd.underlying31 w2) trodAll_mk0))), rfl, bel.frame _, fun h => by cases h⟩
theorem over : Rows.indicatorsConsistencyRow.holds Tryd.pinned (OpenSpec.ofChange Rows.indicatorsConsistencySpec) :=
  OpenClaim.holds_of_wide 5 Tryd.f5 rfl rfl rfl rfl rfl rfl rfl ⟨rfl, rfl, rfl, rfl, rfl⟩ rfl rfl rfl rfl rfl (by kernel_rfl) Tryd.func5 (by kernel_rfl)
    (of_decide_eq_true (by kernel_rfl)) (by unfold Func.isWrapper; first | (rw [if_pos (by decide +kernel)]; kernel_rfl) | (rw [if_neg (by decide +kernel)]; exact ⟨rfl, rfl⟩))
    (fun os started H enc _ => lifted os started H enc)
theorem proved : Rows.IndicatorsConsistencySaid := over
theorem card : Rows.IndicatorsConsistencyCardSaid :=
  Claim7.holds_tied_plain_at .later [] [.data] true (true, "89483116253180aad7df7562d812e942d83f6a4219d3cc2a015eea9bc0112351") false
    proved (fun _ h => by cases h) (by kernel_rfl) (fun _ h => by cases h) indicatorsConsistency_row_tie rfl ⟨rfl, rfl⟩ (by kernel_rfl) rfl
    (fun f fn hf hfn => by
      obtain rfl : f = 5 := Option.some.inj ((show Tryd.prog.funcNamed "zoneinfo/zoneinfolaw18.IndicatorsConsistency" = some 5 by kernel_rfl).symm.trans hf) |>.symm
      obtain rfl : fn = Tryd.f5 := (Option.some.inj (Tryd.func5.symm.trans hfn)).symm
      exact ⟨by kernel_rfl, fun j t ht => by
        rw [Tryd.params5] at ht
        have hj : j < 3 := by
          rcases Nat.lt_or_ge j 3 with h | h
          · exact h
          · rw [Array.getElem?_eq_none (by simpa using h)] at ht; cases ht
        have hjs : j = 0 ∨ j = 1 ∨ j = 2 := by omega
        rcases hjs with rfl | rfl | rfl
        · obtain rfl : t = 23 := by simpa using ht.symm
          exact (show Tryd.prog.wantsStandIn 23 = false by kernel_rfl)
        · obtain rfl : t = 23 := by simpa using ht.symm
          exact (show Tryd.prog.wantsStandIn 23 = false by kernel_rfl)
        · obtain rfl : t = 31 := by simpa using ht.symm
          exact (show Tryd.prog.wantsStandIn 31 = false by kernel_rfl)⟩)
    (by kernel_rfl)
#print axioms card
end Go.Proofs.YtbiglbdanppjpaaDoor.indicatorsConsistency
namespace Go.Proofs.YtbiglbdanppjpaaDoor
/-- The statement, under a short name, for the claim. -/
theorem indicatorsConsistency_holds : Rows.IndicatorsConsistencyCardSaid := indicatorsConsistency.card
end Go.Proofs.YtbiglbdanppjpaaDoor
