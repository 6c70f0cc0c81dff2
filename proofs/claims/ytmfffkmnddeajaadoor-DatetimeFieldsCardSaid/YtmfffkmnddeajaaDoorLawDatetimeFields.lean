/- The row of the law 'DatetimeFields' and its tied card, out of its plain part and the walk of its Go text: for every input the call returns true and its arguments read as before. Condition: none beyond the row's own (the listed variable holds what the program's text lays). -/
import Derived.Test.YtmfffkmnddeajaaDoorRows
import Derived.Test.YtmfffkmnddeajaaDoorGx12
import Derived.Test.YtmfffkmnddeajaaDoorPureDatetimeFields
import Derived.Test.YtmfffkmnddeajaaDoorLaid
import Derived.Test.YtmfffkmnddeajaaDoorTie
import Derived.Test.YtmfffkmnddeajaaDoorCards
import Derived.WalkKit
import Derived.ProofKit
import Derived.OpenShut
import Derived.ShutString
import Derived.ChangeOld
import Derived.Below
import Derived.SizedLaws
import Derived.ChangeSame
import Derived.ChangeArms
import Derived.WideShapes
import Derived.SevenTiedAt
import Derived.RowKitTokens
import Derived.Stop.Joined
namespace Go.Proofs.YtmfffkmnddeajaaDoor.datetimeFields
open Go.ChangeShapes Go.WideShapes Go.ChangeAt Go.RowKit
open Go.ChangeMaps (open_string shut_string)
set_option linter.unusedVariables false
theorem own : ownKnob Tryd.prog.godebug = none := by kernel_rfl
set_option maxRecDepth 100000 in
theorem lifted (os : Os) (started : os.Started) (H : Type) (enc : TypeId × Value → H) :
    ReturnsInHanded {} Tryd.checked os 7 .any (fun w args => (Rows.datetimeFieldsSpec.pre enc Tryd.prog Tryd.f7 [] false w args ∧ laidMetH Tryd.prog [("zoneinfo/civil.lengths", Rows.laid_zoneinfo_civil_lengths)] w) ∧ sizedMet enc Tryd.prog Tryd.f7 (OpenSpec.ofChange Rows.datetimeFieldsSpec) false w args)
      (Rows.datetimeFieldsSpec.post enc Tryd.prog Tryd.f7 false true false false) := by
  refine returnsInHanded_of_change_and (C := Tryd.checked) (X := fun w _ => laidMetH Tryd.prog [("zoneinfo/civil.lengths", Rows.laid_zoneinfo_civil_lengths)] w) (fun _ _ _ hh h => laidMet.of_heap hh h) own started (by kernel_rfl) Tryd.func7
    (ChangeSpec.witness_at (enc := enc) (C := Tryd.checked) (os := os) (X := fun w _ => laidMetH Tryd.prog [("zoneinfo/civil.lengths", Rows.laid_zoneinfo_civil_lengths)] w) false (Laid.world os) #[.int .i64 0] 8 rfl (by kernel_rfl) (by kernel_rfl) (by kernel_rfl) (by kernel_rfl) (by kernel_rfl) (Laid.world_met os _)) ?_
  intro W base args ds gs before hval0 hW hcnd hsz0 hL _
  have hgl := Laid.gl_of_laid hL
  have hsz : (DataW.weightsEach Tryd.prog (Tryd.f7.params.toList ++ Rows.datetimeFieldsSpec.plain.varTypes Tryd.prog) (ds ++ gs)).all (· ≤ reachBytes) = true := hsz0
  have hval : ∀ (j : Nat) t v, Tryd.f7.params[j]? = some t → args[j]? = some v → Value.okWide Tryd.prog W .any base t v := hval0
  have hW' := hW
  obtain ⟨p, q, hA0, hV, rfl, hfz, hnd⟩ := hW
  have hA : DataW.TrodAll enc Tryd.prog W 0 (fun _ => true) true Tryd.f7.params.toList args.toList ds p := hA0
  rw [Tryd.params7] at hA hval hsz
  obtain ⟨v0, vs0, d0, ds0, p0, q0, hargs, rfl, rfl, h0, r0⟩ := trodAll_cons hA
  obtain ⟨rfl, rfl, rfl⟩ := trodAll_nil r0
  obtain rfl : args = #[v0] := by cases args; simp_all
  obtain ⟨rfl, rfl⟩ := trodVars_none hV
  obtain ⟨a0, rfl, rfl, rfl, w0⟩ := open_int Tryd.underlying2 (hval 0 2 v0 rfl rfl) h0
  clear hA0 hval0 hsz0 hsz
  refine (G.zoneinfolaw05_DatetimeFields.walk Pure.DatetimeFields a0 W hgl w0).mono fun e W' ⟨he, bel⟩ => ?_
  subst he
  exact ⟨_, rfl, _, _, _, [], _, [], hW', trodAll_mk1 (shut_bool Tryd.underlying4 _), (trodAll_cons_mk (shut_int Tryd.underlying2 w0) trodAll_mk0), rfl, bel.frame _, fun h => by cases h⟩
theorem over : Rows.datetimeFieldsRow.holds Tryd.pinned (OpenSpec.ofChange Rows.datetimeFieldsSpec) :=
  OpenClaim.holds_of_wide 7 Tryd.f7 rfl rfl rfl rfl rfl rfl rfl ⟨rfl, rfl, rfl, rfl, rfl⟩ rfl rfl rfl rfl rfl (by kernel_rfl) Tryd.func7 (by kernel_rfl)
    (of_decide_eq_true (by kernel_rfl)) (by unfold Func.isWrapper; first | (rw [if_pos (by decide +kernel)]; kernel_rfl) | (rw [if_neg (by decide +kernel)]; exact ⟨rfl, rfl⟩))
    (fun os started H enc _ => lifted os started H enc)
theorem proved : Rows.DatetimeFieldsSaid := over
theorem card : Rows.DatetimeFieldsCardSaid :=
  Claim7.holds_tied_plain_at .later [] [.data] true (true, "7adbf486ade87143451a27a08ee9e3fa7f718ef9b1cfd9f71095ec9039938c0f") false
    proved (fun _ h => by cases h) (by kernel_rfl) (fun _ h => by cases h) datetimeFields_row_tie rfl ⟨rfl, rfl⟩ (by kernel_rfl) rfl
    (fun f fn hf hfn => by
      obtain rfl : f = 7 := Option.some.inj ((show Tryd.prog.funcNamed "zoneinfo/zoneinfolaw05.DatetimeFields" = some 7 by kernel_rfl).symm.trans hf) |>.symm
      obtain rfl : fn = Tryd.f7 := (Option.some.inj (Tryd.func7.symm.trans hfn)).symm
      exact ⟨by kernel_rfl, fun j t ht => by
        rw [Tryd.params7] at ht
        have hj : j < 1 := by
          rcases Nat.lt_or_ge j 1 with h | h
          · exact h
          · rw [Array.getElem?_eq_none (by simpa using h)] at ht; cases ht
        have hjs : j = 0 := by omega
        rcases hjs with rfl
        · obtain rfl : t = 2 := by simpa using ht.symm
          exact (show Tryd.prog.wantsStandIn 2 = false by kernel_rfl)⟩)
    (by kernel_rfl)
#print axioms card
end Go.Proofs.YtmfffkmnddeajaaDoor.datetimeFields
namespace Go.Proofs.YtmfffkmnddeajaaDoor
/-- The statement, under a short name, for the claim. -/
theorem datetimeFields_holds : Rows.DatetimeFieldsCardSaid := datetimeFields.card
end Go.Proofs.YtmfffkmnddeajaaDoor
