/- The rank of a transition's own time: the plain law behind the walk. No condition. -/
import Derived.Test.YtfminjencigfeaaWWords
import Derived.Test.YtfminjencigfeaaWMore
import Derived.Test.YtfminjencigfeaaOwn
import Derived.Test.YtfminjencigfeaaGx18
import Derived.Test.YtfminjencigfeaaGx3
import Derived.Test.YtfminjencigfeaaBase
import Derived.Test.YtfminjencigfeaaLook
set_option linter.unusedVariables false
set_option linter.unusedSimpArgs false
namespace Go.Proofs.Ytfminjencigfeaa.Pure
open Go.RowKit Go.Proofs.Ytfminjencigfeaa.G Go.Proofs.YtfminjencigfeaaW.PrintWords Go.Proofs.YtfminjencigfeaaW.PrintLast Go.Proofs.YtfminjencigfeaaW.PrintMore

theorem LookupRankOfTransitions : zoneinfolaw23_LookupRankOfTransitions.Pure := by
  intro l a1 _ _ hw h1
  have ha1 := wf_u16 h1
  have hb : ∀ k : Nat, 60 ≤ k → zoneinfolaw23_LookupRankOfTransitions.j0 (k + 1) l a1 true = some true := fun k hk => by
    rw [zoneinfolaw23_LookupRankOfTransitions.j0, if_pos rfl]
    exact bnd (awake23 k hk) rfl
  refine ⟨1001, ?_⟩
  unfold zoneinfolaw23_LookupRankOfTransitions.f
  refine bnd (awake23 1001 (by omega)) ?_
  rw [if_pos rfl]
  by_cases c1 : (l.length : Int) > 200
  · rw [if_pos c1]; exact hb 1000 (by omega)
  rw [if_neg c1]
  by_cases c2 : (l.length : Int) = 0
  · rw [if_pos c2]; exact hb 1000 (by omega)
  rw [if_neg c2]
  obtain ⟨v, hv, hA⟩ := rdesc_f l (by omega) 1001 (by omega)
  refine bnd hv ?_
  by_cases c3 : v = -1
  · have ha := hA c3
    subst c3
    rw [show ((-1 : Int) != -1) = false by decide, zoneinfolaw23_LookupRankOfTransitions.j0, if_neg (by decide), if_neg c2, w64 (x := a1) (by omega) (by omega)]
    obtain ⟨i, hi, hil⟩ : ∃ i : Nat, Int.tmod a1 (l.length : Int) = (i : Int) ∧ i < l.length := by
      rw [Int.tmod_eq_emod_of_nonneg (by omega)]
      have h1 := Int.emod_nonneg a1 c2
      have h2 := Int.emod_lt_of_pos a1 (b := (l.length : Int)) (by omega)
      exact ⟨(a1 % (l.length : Int)).toNat, by omega, by omega⟩
    have hr := fun j (hj : j < l.length) => wf_i64 (hw _ (List.getElem_mem hj))
    have hx := fun j (hj : j < l.length) => (rd_nat l j hj) ▸ hr j hj
    rw [hi, if_pos (by omega), if_pos (by omega)]
    refine bnd (rank_eq ha (by omega) (r := i + 1) (by omega) ⟨by omega, fun j hj => ha.le (by omega) (by omega), fun j hj hjl => ha.lt (by omega) hjl⟩) ?_
    have hmax : lookup_Rank.f 1000 l 9223372036854775807 = some (l.length : Int) := rank_eq ha (by omega) (by omega) ⟨Nat.le_refl _, fun j hj => (hx j hj).2, fun j hj hjl => absurd hjl (by omega)⟩
    rw [if_pos (by rw [w64 (by omega) (by omega)]; omega)]
    by_cases c4 : rd l (i : Int) = -9223372036854775808
    · rw [if_pos c4]
      refine bnd hmax ?_
      simp
    · rw [if_neg c4, w64 (x := rd l (i : Int) - 1) (by have := hx i hil; omega) (by have := hx i hil; omega)]
      refine bnd (rank_eq ha (by omega) (r := i) (by omega) ⟨by omega, fun j hj => by have := ha.lt hj hil; omega, fun j hj hjl => by have := ha.le hj hjl; omega⟩) ?_
      rw [if_pos rfl]
      refine bnd hmax ?_
      simp
  · rw [show (v != -1) = true by simpa using c3]
    exact hb 1000 (by omega)
end Go.Proofs.Ytfminjencigfeaa.Pure
