/- The row of the law 'HeaderTruncation' and its tied card, out of its plain part and the walk of its Go text: for every input the call returns true and its arguments read as before. Condition: none beyond the row's own (the listed variable holds what the program's text lays). -/
import Derived.Test.YtikgbmldbfgkdaaDoorRows
import Derived.Test.YtikgbmldbfgkdaaDoorGx21
import Derived.Test.YtikgbmldbfgkdaaDoorPureHeaderTruncation
import Derived.Test.YtikgbmldbfgkdaaDoorLaid
import Derived.Test.YtikgbmldbfgkdaaDoorTie
import Derived.Test.YtikgbmldbfgkdaaDoorCards
import Derived.WalkKit
import Derived.ProofKit
import Derived.OpenShut
import Derived.ShutString
import Derived.ChangeOld
import Derived.Below
import Derived.SizedLaws
import Derived.ChangeSame
import Derived.ChangeArms
import Derived.WideShapes
import Derived.SevenTiedAt
import Derived.RowKitTokens
import Derived.Stop.Joined
import Derived.Test.YtikgbmldbfgkdaaDoorWSized
namespace Go.Proofs.YtikgbmldbfgkdaaDoor.headerTruncation
open Go.ChangeShapes Go.WideShapes Go.ChangeAt Go.RowKit
open Go.ChangeMaps (open_string shut_string)
set_option linter.unusedVariables false
theorem own : ownKnob Tryd.prog.godebug = none := by kernel_rfl
theorem laidOut : laidOutB Tryd.prog = true := by kernel_rfl
def IsRow (k : IntKind) (w : World) (a : Option Addr) (len cap : Nat) (zs : List Int) : Prop :=
  (a = none ∧ len = 0 ∧ cap = 0 ∧ zs = []) ∨
  ∃ x, a = some x ∧ len ≤ cap ∧ cap ≤ maxLen ∧ zs.length = cap ∧ (∀ i, i < zs.length → w.cell? (x.add i) = some (.int k (zs.getD i 0))) ∧ ∀ n ∈ zs, (Lit.int k n).wf = true
theorem cells_t24 : Tryd.prog.cellsOf 24 = 7 := by kernel_rfl
theorem cells_t3 : Tryd.prog.cellsOf 3 = 1 := by kernel_rfl
theorem cells_t22 : Tryd.prog.cellsOf 22 = 1 := by kernel_rfl
theorem open_t24 {H : Type} {enc : TypeId × Value → H} {w : World} {base b0 : Nat} {r : Reach} {sp : Nat → Bool} {held : Bool} {v : Value} {d : DataW H} {ps : List MemPlace} (hv : Value.okWide Tryd.prog w r b0 24 v) (h : DataW.Trod enc Tryd.prog w base sp held 24 v d ps) :
    ∃ (n0 : Int) (n1 : Int) (n2 : Int) (n3 : Int) (n4 : Int) (n5 : Int) (n6 : Int), v = .agg #[.int .i64 n0, .int .u32 n1, .int .u32 n2, .int .u32 n3, .int .u32 n4, .int .u32 n5, .int .u32 n6] ∧ d = .agg [.lit (.int .i64 n0), .lit (.int .u32 n1), .lit (.int .u32 n2), .lit (.int .u32 n3), .lit (.int .u32 n4), .lit (.int .u32 n5), .lit (.int .u32 n6)] ∧ ps = [] ∧ (Lit.int .i64 n0).wf = true ∧ (Lit.int .u32 n1).wf = true ∧ (Lit.int .u32 n2).wf = true ∧ (Lit.int .u32 n3).wf = true ∧ (Lit.int .u32 n4).wf = true ∧ (Lit.int .u32 n5).wf = true ∧ (Lit.int .u32 n6).wf = true := by
  obtain ⟨cs, rfl, hsz⟩ := okWide_struct Tryd.underlying24 hv
  rw [cells_t24] at hsz
  obtain ⟨l⟩ := cs
  obtain ⟨c0, c1, c2, c3, c4, c5, c6, rfl⟩ : ∃ c0 c1 c2 c3 c4 c5 c6, l = [c0, c1, c2, c3, c4, c5, c6] := by
    match l, hsz with
    | [c0, c1, c2, c3, c4, c5, c6], _ => exact ⟨c0, c1, c2, c3, c4, c5, c6, rfl⟩
  obtain ⟨fuel, hf⟩ := h
  obtain ⟨xs, n, _, hx, _, hlen, hfs⟩ := DataW.trod_struct Tryd.underlying24 hf
  obtain ⟨y0, y1, y2, y3, y4, y5, y6, rfl⟩ : ∃ y0 y1 y2 y3 y4 y5 y6, xs = [y0, y1, y2, y3, y4, y5, y6] := by
    match xs, hlen with
    | [y0, y1, y2, y3, y4, y5, y6], _ => exact ⟨y0, y1, y2, y3, y4, y5, y6, rfl⟩
  have g0 := hfs 0 _ rfl
  simp [Value.cells, cells_t3] at g0
  obtain ⟨n0, e0, rfl, w0⟩ := DataW.trod_int Tryd.underlying3 g0
  obtain rfl : c0 = .int .i64 n0 := by simpa using e0
  have g1 := hfs 1 _ rfl
  simp [Value.cells, cells_t22] at g1
  obtain ⟨n1, e1, rfl, w1⟩ := DataW.trod_int Tryd.underlying22 g1
  obtain rfl : c1 = .int .u32 n1 := by simpa using e1
  have g2 := hfs 2 _ rfl
  simp [Value.cells, cells_t22] at g2
  obtain ⟨n2, e2, rfl, w2⟩ := DataW.trod_int Tryd.underlying22 g2
  obtain rfl : c2 = .int .u32 n2 := by simpa using e2
  have g3 := hfs 3 _ rfl
  simp [Value.cells, cells_t22] at g3
  obtain ⟨n3, e3, rfl, w3⟩ := DataW.trod_int Tryd.underlying22 g3
  obtain rfl : c3 = .int .u32 n3 := by simpa using e3
  have g4 := hfs 4 _ rfl
  simp [Value.cells, cells_t22] at g4
  obtain ⟨n4, e4, rfl, w4⟩ := DataW.trod_int Tryd.underlying22 g4
  obtain rfl : c4 = .int .u32 n4 := by simpa using e4
  have g5 := hfs 5 _ rfl
  simp [Value.cells, cells_t22] at g5
  obtain ⟨n5, e5, rfl, w5⟩ := DataW.trod_int Tryd.underlying22 g5
  obtain rfl : c5 = .int .u32 n5 := by simpa using e5
  have g6 := hfs 6 _ rfl
  simp [Value.cells, cells_t22] at g6
  obtain ⟨n6, e6, rfl, w6⟩ := DataW.trod_int Tryd.underlying22 g6
  obtain rfl : c6 = .int .u32 n6 := by simpa using e6
  obtain ⟨rfl, rfl⟩ := Prod.mk.inj hx
  exact ⟨n0, n1, n2, n3, n4, n5, n6, rfl, by simp, by simp, w0, w1, w2, w3, w4, w5, w6⟩
theorem shut_t24 {H : Type} {enc : TypeId × Value → H} {w : World} {base : Nat} {sp : Nat → Bool} {held : Bool} {n0 : Int} {n1 : Int} {n2 : Int} {n3 : Int} {n4 : Int} {n5 : Int} {n6 : Int} (w0 : (Lit.int .i64 n0).wf = true) (w1 : (Lit.int .u32 n1).wf = true) (w2 : (Lit.int .u32 n2).wf = true) (w3 : (Lit.int .u32 n3).wf = true) (w4 : (Lit.int .u32 n4).wf = true) (w5 : (Lit.int .u32 n5).wf = true) (w6 : (Lit.int .u32 n6).wf = true) :
    DataW.Trod enc Tryd.prog w base sp held 24 (.agg #[.int .i64 n0, .int .u32 n1, .int .u32 n2, .int .u32 n3, .int .u32 n4, .int .u32 n5, .int .u32 n6]) (.agg [.lit (.int .i64 n0), .lit (.int .u32 n1), .lit (.int .u32 n2), .lit (.int .u32 n3), .lit (.int .u32 n4), .lit (.int .u32 n5), .lit (.int .u32 n6)]) [] := ⟨2, by
  have := trod_struct_mk (enc := enc) (w := w) (base := base) (spare := sp) (held := held) (n := 1) (cs := [.int .i64 n0, .int .u32 n1, .int .u32 n2, .int .u32 n3, .int .u32 n4, .int .u32 n5, .int .u32 n6]) (xs := [(.lit (.int .i64 n0), []), (.lit (.int .u32 n1), []), (.lit (.int .u32 n2), []), (.lit (.int .u32 n3), []), (.lit (.int .u32 n4), []), (.lit (.int .u32 n5), []), (.lit (.int .u32 n6), [])]) Tryd.underlying24 (by simp [cells_t24])
    (by simp [cells_t3, cells_t22, DataW.trod, Tryd.underlying3, Tryd.underlying22, w0, w1, w2, w3, w4, w5, w6])
  simpa [Value.cells] using this⟩
set_option maxRecDepth 100000 in
theorem lifted (os : Os) (started : os.Started) (H : Type) (enc : TypeId × Value → H) :
    ReturnsInHanded {} Tryd.checked os 5 .any (fun w args => (Rows.headerTruncationSpec.pre enc Tryd.prog Tryd.f5 [] false w args ∧ laidMetH Tryd.prog [("zoneinfo/header.versions", Rows.laid_zoneinfo_header_versions)] w) ∧ sizedMet enc Tryd.prog Tryd.f5 (OpenSpec.ofChange Rows.headerTruncationSpec) false w args)
      (Rows.headerTruncationSpec.post enc Tryd.prog Tryd.f5 false true false false) := by
  refine returnsInHanded_of_change_and (C := Tryd.checked) (X := fun w _ => laidMetH Tryd.prog [("zoneinfo/header.versions", Rows.laid_zoneinfo_header_versions)] w) (fun _ _ _ hh h => laidMet.of_heap hh h) own started (by kernel_rfl) Tryd.func5
    (ChangeSpec.witness_at (enc := enc) (C := Tryd.checked) (os := os) (X := fun w _ => laidMetH Tryd.prog [("zoneinfo/header.versions", Rows.laid_zoneinfo_header_versions)] w) false (Laid.world os) #[.agg #[.int .i64 0, .int .u32 0, .int .u32 0, .int .u32 0, .int .u32 0, .int .u32 0, .int .u32 0], .int .u8 0, .slice none 0 0] 8 rfl (by kernel_rfl) (by kernel_rfl) (by kernel_rfl) (by kernel_rfl) (by kernel_rfl) (Laid.world_met os _)) ?_
  intro W base args ds gs before hval0 hW hcnd hsz0 hL _
  have hgl := Laid.gl_of_laid hL
  have hsz : (DataW.weightsEach Tryd.prog (Tryd.f5.params.toList ++ Rows.headerTruncationSpec.plain.varTypes Tryd.prog) (ds ++ gs)).all (· ≤ reachBytes) = true := hsz0
  have hval : ∀ (j : Nat) t v, Tryd.f5.params[j]? = some t → args[j]? = some v → Value.okWide Tryd.prog W .any base t v := hval0
  have hW' := hW
  obtain ⟨p, q, hA0, hV, rfl, hfz, hnd⟩ := hW
  have hA : DataW.TrodAll enc Tryd.prog W 0 (fun _ => true) true Tryd.f5.params.toList args.toList ds p := hA0
  rw [Tryd.params5] at hA hval hsz
  obtain ⟨v0, vs0, d0, ds0, p0, q0, hargs, rfl, rfl, h0, r0⟩ := trodAll_cons hA
  obtain ⟨v1, vs1, d1, ds1, p1, q1, rfl, rfl, rfl, h1, r1⟩ := trodAll_cons r0
  obtain ⟨v2, vs2, d2, ds2, p2, q2, rfl, rfl, rfl, h2, r2⟩ := trodAll_cons r1
  obtain ⟨rfl, rfl, rfl⟩ := trodAll_nil r2
  obtain rfl : args = #[v0, v1, v2] := by cases args; simp_all
  obtain ⟨rfl, rfl⟩ := trodVars_none hV
  obtain ⟨a0_0, a0_1, a0_2, a0_3, a0_4, a0_5, a0_6, rfl, rfl, rfl, w0_0, w0_1, w0_2, w0_3, w0_4, w0_5, w0_6⟩ := open_t24 (hval 0 24 v0 rfl rfl) h0
  obtain ⟨a1, rfl, rfl, rfl, w1⟩ := open_int Tryd.underlying5 (hval 1 5 v1 rfl rfl) h1
  obtain ⟨a2, len2, cap2, rfl⟩ := okWide_slice Tryd.underlying25 (hval 2 25 v2 rfl rfl)
  have k2 := h2
  have lt2 : ∀ x ∈ p2, x.block < W.heap.size := by obtain ⟨m, hm⟩ := k2; exact DataW.trod_lt m _ _ _ hm
  obtain ⟨z2, w2⟩ : ∃ zs, IsRow .u8 W a2 len2 cap2 zs := by
    obtain ⟨fuel, hf⟩ := h2
    rcases open_ints Tryd.underlying25 Tryd.underlying5 (by kernel_rfl) hf with ⟨hcs, _⟩ | ⟨x, l, c, zs, hcs, _, hl, hm, hz, _, hcell, hwz⟩
    · simp [Value.cells] at hcs
      obtain ⟨rfl, rfl, rfl⟩ := hcs
      exact ⟨[], .inl ⟨rfl, rfl, rfl, rfl⟩⟩
    · simp [Value.cells] at hcs
      obtain ⟨rfl, rfl, rfl⟩ := hcs
      exact ⟨zs, .inr ⟨_, rfl, hl, hm, by simpa using hz, hcell, hwz⟩⟩
  have y2 : len2 * 1 ≤ 140737488351232 := Go.Proofs.YtikgbmldbfgkdaaDoorW.PrintWords.sized_ints hsz (j := 2) (t := 25) rfl rfl Tryd.underlying25 Tryd.underlying5 (by kernel_rfl) (by kernel_rfl) h2
  clear hA0 hval0 hsz0 hsz
  refine (G.zoneinfolaw13_HeaderTruncation.walk Pure.HeaderTruncation a0_0 a0_1 a0_2 a0_3 a0_4 a0_5 a0_6 a1 a2 len2 cap2 z2 W hgl w0_0 w0_1 w0_2 w0_3 w0_4 w0_5 w0_6 w1 w2 y2).mono fun e W' ⟨he, bel⟩ => ?_
  subst he
  exact ⟨_, rfl, _, _, _, [], _, [], hW', trodAll_mk1 (shut_bool Tryd.underlying4 _), (trodAll_cons_mk (shut_t24 w0_0 w0_1 w0_2 w0_3 w0_4 w0_5 w0_6) (trodAll_cons_mk (shut_int Tryd.underlying5 w1) (trodAll_cons_mk (Below.trod laidOut (by kernel_rfl) (of_decide_eq_true (by kernel_rfl)) k2 bel lt2) trodAll_mk0))), rfl, bel.frame _, fun h => by cases h⟩
theorem over : Rows.headerTruncationRow.holds Tryd.pinned (OpenSpec.ofChange Rows.headerTruncationSpec) :=
  OpenClaim.holds_of_wide 5 Tryd.f5 rfl rfl rfl rfl rfl rfl rfl ⟨rfl, rfl, rfl, rfl, rfl⟩ rfl rfl rfl rfl rfl (by kernel_rfl) Tryd.func5 (by kernel_rfl)
    (of_decide_eq_true (by kernel_rfl)) (by unfold Func.isWrapper; first | (rw [if_pos (by decide +kernel)]; kernel_rfl) | (rw [if_neg (by decide +kernel)]; exact ⟨rfl, rfl⟩))
    (fun os started H enc _ => lifted os started H enc)
theorem proved : Rows.HeaderTruncationSaid := over
theorem card : Rows.HeaderTruncationCardSaid :=
  Claim7.holds_tied_plain_at .later [] [.data] true (true, "42a239182d9b0226bd612f2c1ff49912a44f3ef8dbb8888ecb5c114cef9a036e") false
    proved (fun _ h => by cases h) (by kernel_rfl) (fun _ h => by cases h) headerTruncation_row_tie rfl ⟨rfl, rfl⟩ (by kernel_rfl) rfl
    (fun f fn hf hfn => by
      obtain rfl : f = 5 := Option.some.inj ((show Tryd.prog.funcNamed "zoneinfo/zoneinfolaw13.HeaderTruncation" = some 5 by kernel_rfl).symm.trans hf) |>.symm
      obtain rfl : fn = Tryd.f5 := (Option.some.inj (Tryd.func5.symm.trans hfn)).symm
      exact ⟨by kernel_rfl, fun j t ht => by
        rw [Tryd.params5] at ht
        have hj : j < 3 := by
          rcases Nat.lt_or_ge j 3 with h | h
          · exact h
          · rw [Array.getElem?_eq_none (by simpa using h)] at ht; cases ht
        have hjs : j = 0 ∨ j = 1 ∨ j = 2 := by omega
        rcases hjs with rfl | rfl | rfl
        · obtain rfl : t = 24 := by simpa using ht.symm
          exact (show Tryd.prog.wantsStandIn 24 = false by kernel_rfl)
        · obtain rfl : t = 5 := by simpa using ht.symm
          exact (show Tryd.prog.wantsStandIn 5 = false by kernel_rfl)
        · obtain rfl : t = 25 := by simpa using ht.symm
          exact (show Tryd.prog.wantsStandIn 25 = false by kernel_rfl)⟩)
    (by kernel_rfl)
#print axioms card
end Go.Proofs.YtikgbmldbfgkdaaDoor.headerTruncation
namespace Go.Proofs.YtikgbmldbfgkdaaDoor
/-- The statement, under a short name, for the claim. -/
theorem headerTruncation_holds : Rows.HeaderTruncationCardSaid := headerTruncation.card
end Go.Proofs.YtikgbmldbfgkdaaDoor
