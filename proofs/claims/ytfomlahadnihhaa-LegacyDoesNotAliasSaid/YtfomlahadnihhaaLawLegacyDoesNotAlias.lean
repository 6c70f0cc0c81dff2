/- The row of the law 'LegacyDoesNotAlias', out of its plain part and the walk of its Go text: for every input the call returns true and its arguments read as before. Condition: none beyond the row's own. -/
import Derived.Test.YtfomlahadnihhaaRows
import Derived.Test.YtfomlahadnihhaaGx20
import Derived.Test.YtfomlahadnihhaaPureLegacyDoesNotAlias
import Derived.Test.YtfomlahadnihhaaOpn
import Derived.WalkKit
import Derived.ProofKit
import Derived.OpenShut
import Derived.ShutString
import Derived.ChangeOld
import Derived.Below
import Derived.SizedLaws
import Derived.ChangeSame
import Derived.ChangeArms
import Derived.WideShapes
import Derived.Test.YtfomlahadnihhaaWSized
namespace Go.Proofs.Ytfomlahadnihhaa.legacyDoesNotAlias
open Go.ChangeShapes Go.WideShapes Go.ChangeAt Go.RowKit Go.Proofs.YtfomlahadnihhaaW.PrintWords Go.Proofs.Ytfomlahadnihhaa.Opn
open Go.ChangeMaps (open_string shut_string)
set_option linter.unusedVariables false
set_option linter.unusedSimpArgs false
theorem own : ownKnob Try.prog.godebug = none := by kernel_rfl
theorem laidOut : laidOutB Try.prog = true := by kernel_rfl
set_option maxRecDepth 100000 in
set_option maxHeartbeats 1000000 in
theorem lifted (os : Os) (started : os.Started) (H : Type) (enc : TypeId × Value → H) :
    ReturnsInHanded {} Try.checked os 7 .any (Rows.legacyDoesNotAliasSpec.pre6 enc Try.prog Try.f7 Rows.legacyDoesNotAliasRow.domain false) (Rows.legacyDoesNotAliasSpec.post enc Try.prog Try.f7 false true false false) := by
  refine returnsInHanded_of_change_sized (C := Try.checked) own started (by kernel_rfl) Try.func7
    (ChangeSpec.witness6 (enc := enc) (C := Try.checked) false ⟨#[], #[.agg #[.slice none 0 0, .slice none 0 0, .slice none 0 0, .slice none 0 0, .slice none 0 0, .slice none 0 0, .slice none 0 0]], []⟩ 8 (by kernel_rfl) (by kernel_rfl) (by kernel_rfl) (by kernel_rfl)) ?_
  intro W base args ds gs before hval0 hW hcnd hsz0 _
  have hval : ∀ (j : Nat) t v, Try.f7.params[j]? = some t → args[j]? = some v → Value.okWide Try.prog W .any base t v := hval0
  have hW' := hW
  obtain ⟨p, q, hA0, hV, rfl, hfz, hnd⟩ := hW
  have hA : DataW.TrodAll enc Try.prog W 0 (fun _ => true) true Try.f7.params.toList args.toList ds p := hA0
  rw [Try.params7] at hA hval
  obtain ⟨v0, vs0, d0, ds0, p0, q0, hargs, rfl, rfl, h0, r0⟩ := trodAll_cons hA
  obtain ⟨rfl, rfl, rfl⟩ := trodAll_nil r0
  obtain rfl : args = #[v0] := by cases args; simp_all
  obtain ⟨rfl, rfl⟩ := trodVars_none hV
  have k0 := h0
  have lt0 : ∀ x ∈ p0, x.block < W.heap.size := by obtain ⟨m, hm⟩ := k0; exact DataW.trod_lt m _ _ _ hm
  obtain ⟨fuel0, hf0⟩ := h0
  obtain ⟨cs0, rfl, hsz0⟩ := okWide_struct Try.underlying28 (hval 0 28 v0 rfl rfl)
  obtain ⟨x0, K0, w0⟩ := opens_t28 _ _ _ _ _ _ _ _ _ hf0
  obtain ⟨l0_0, l0_1, l0_2, l0_3, l0_4, l0_5, l0_6⟩ := x0
  obtain ⟨u0_0, v0_0, e0_0, ⟨A0_0, c0_0, f0_0, hc0_0, hr0_0⟩, ⟨u0_1, v0_1, e0_1, ⟨A0_1, c0_1, f0_1, hc0_1, hr0_1⟩, ⟨u0_2, v0_2, e0_2, ⟨A0_2, c0_2, f0_2, hc0_2, hr0_2⟩, ⟨u0_3, v0_3, e0_3, ⟨A0_3, c0_3, f0_3, hc0_3, hr0_3⟩, ⟨u0_4, v0_4, e0_4, ⟨A0_4, c0_4, f0_4, hc0_4, hr0_4⟩, ⟨u0_5, v0_5, e0_5, ⟨A0_5, c0_5, f0_5, hc0_5, hr0_5⟩, ⟨A0_6, c0_6, f0_6, hc0_6, hr0_6⟩⟩⟩⟩⟩⟩⟩ := K0
  obtain rfl : cs0 = #[(.slice A0_0 l0_0.length c0_0), (.slice A0_1 l0_1.length c0_1), (.slice A0_2 l0_2.length c0_2), (.slice A0_3 l0_3.length c0_3), (.slice A0_4 l0_4.length c0_4), (.slice A0_5 l0_5.length c0_5), (.slice A0_6 l0_6.length c0_6)] := by
    obtain ⟨ls0⟩ := cs0
    have E : ls0 = [(.slice A0_0 l0_0.length c0_0), (.slice A0_1 l0_1.length c0_1), (.slice A0_2 l0_2.length c0_2), (.slice A0_3 l0_3.length c0_3), (.slice A0_4 l0_4.length c0_4), (.slice A0_5 l0_5.length c0_5), (.slice A0_6 l0_6.length c0_6)] := by
      refine Eq.trans (show ls0 = _ from e0_0) ?_
      rw [show u0_0 = [(.slice A0_0 l0_0.length c0_0)] from f0_0]
      rw [show v0_0 = _ from e0_1]
      rw [show u0_1 = [(.slice A0_1 l0_1.length c0_1)] from f0_1]
      rw [show v0_1 = _ from e0_2]
      rw [show u0_2 = [(.slice A0_2 l0_2.length c0_2)] from f0_2]
      rw [show v0_2 = _ from e0_3]
      rw [show u0_3 = [(.slice A0_3 l0_3.length c0_3)] from f0_3]
      rw [show v0_3 = _ from e0_4]
      rw [show u0_4 = [(.slice A0_4 l0_4.length c0_4)] from f0_4]
      rw [show v0_4 = _ from e0_5]
      rw [show u0_5 = [(.slice A0_5 l0_5.length c0_5)] from f0_5]
      rw [show v0_5 = [(.slice A0_6 l0_6.length c0_6)] from f0_6]
      rfl
    rw [E]
  obtain ⟨w0_0, w0_1, w0_2, w0_3, w0_4, w0_5, w0_6⟩ := w0
  clear hA0 hval0
  obtain ⟨k, hk⟩ := Pure.LegacyDoesNotAlias l0_0 l0_1 l0_2 l0_3 l0_4 l0_5 l0_6 w0_0 w0_1 w0_2 w0_3 w0_4 w0_5 w0_6
  refine (G.zoneinfolaw22_LegacyDoesNotAlias.calls k A0_0 c0_0 l0_0 A0_1 c0_1 l0_1 A0_2 c0_2 l0_2 A0_3 c0_3 l0_3 A0_4 c0_4 l0_4 A0_5 c0_5 l0_5 A0_6 c0_6 l0_6 true W hr0_0 hc0_0 hr0_1 hc0_1 hr0_2 hc0_2 hr0_3 hc0_3 hr0_4 hc0_4 hr0_5 hc0_5 hr0_6 hc0_6 hk).mono fun e W' ⟨he, bel0⟩ => ?_
  have bel : Below W.heap.size W W' := bel0
  subst he
  exact ⟨_, rfl, _, _, _, [], _, [], hW', trodAll_mk1 (shut_bool Try.underlying4 _), (trodAll_cons_mk (Below.trod laidOut (by kernel_rfl) (of_decide_eq_true (by kernel_rfl)) k0 bel lt0) trodAll_mk0), rfl, bel.frame _, fun h => by cases h⟩
theorem over : Rows.legacyDoesNotAliasRow.holds Try.pinned (OpenSpec.ofChange Rows.legacyDoesNotAliasSpec) :=
  OpenClaim.holds_of_wide 7 Try.f7 rfl rfl rfl rfl rfl rfl rfl ⟨rfl, rfl, rfl, rfl, rfl⟩ rfl rfl rfl rfl rfl (by kernel_rfl) Try.func7 (by kernel_rfl)
    (of_decide_eq_true (by kernel_rfl)) (by unfold Func.isWrapper; first | (rw [if_pos (by decide +kernel)]; kernel_rfl) | (rw [if_neg (by decide +kernel)]; exact ⟨rfl, rfl⟩))
    (fun os started H enc _ => lifted os started H enc)
theorem proved : Rows.LegacyDoesNotAliasSaid := over
#print axioms proved
end Go.Proofs.Ytfomlahadnihhaa.legacyDoesNotAlias
namespace Go.Proofs.Ytfomlahadnihhaa
/-- The statement, under a short name, for the claim. -/
theorem legacyDoesNotAlias_holds : Rows.LegacyDoesNotAliasSaid := legacyDoesNotAlias.proved
end Go.Proofs.Ytfomlahadnihhaa
