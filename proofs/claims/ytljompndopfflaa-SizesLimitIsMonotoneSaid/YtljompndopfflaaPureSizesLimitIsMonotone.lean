/- Raising the limit keeps a successful result; a result succeeds with itself as the limit, and fails with any smaller limit: the plain law behind the walk. No condition. -/
import Derived.Test.YtljompndopfflaaWWords
import Derived.Test.YtljompndopfflaaWMore
import Derived.Test.YtljompndopfflaaOwn
import Derived.Test.YtljompndopfflaaGx12
import Derived.Test.YtljompndopfflaaBase
import Derived.Test.YtljompndopfflaaSiz
import Derived.Test.YtljompndopfflaaL03
set_option linter.unusedVariables false
namespace Go.Proofs.Ytljompndopfflaa.Pure
open Go.RowKit Go.Proofs.Ytljompndopfflaa.G Go.Proofs.YtljompndopfflaaW.PrintWords Go.Proofs.YtljompndopfflaaW.PrintLast Go.Proofs.YtljompndopfflaaW.PrintMore

theorem SizesLimitIsMonotone : zoneinfolaw03_SizesLimitIsMonotone.Pure := by
  intro l m lim more _ _ hl _ _ hm hlim hmore
  have wl := wf_u64 hlim
  have wm := wf_u64 hmore
  have hl := AllU.of hl
  have hm := AllU.of hm
  refine ⟨4000 + 1 + 1, ?_⟩
  unfold zoneinfolaw03_SizesLimitIsMonotone.f
  have aw := awake03 (4000 + 1) (by omega)
  have out : zoneinfolaw03_SizesLimitIsMonotone.j0 (4000 + 1 + 1) l m lim more true = some true := by
    simp only [zoneinfolaw03_SizesLimitIsMonotone.j0, if_true]
    exact bnd aw rfl
  refine bnd (awake03 _ (by omega)) ?_
  rw [if_pos rfl]
  by_cases h1 : (l.length : Int) > 100
  · rw [if_pos h1]; exact out
  · rw [if_neg h1]
    by_cases h2 : (m.length : Int) > 100
    · rw [decide_eq_true h2]; exact out
    · rw [decide_eq_false h2]
      simp only [zoneinfolaw03_SizesLimitIsMonotone.j0]
      rw [if_neg (by decide)]
      have hnn := dot_nonneg l m hl hm
      have hmn : IntKind.u64.wrap (lim + mn more (IntKind.u64.wrap (18446744073709551615 - lim))) = lim + mn more (18446744073709551615 - lim) ∧ lim ≤ lim + mn more (18446744073709551615 - lim) ∧ lim + mn more (18446744073709551615 - lim) < 18446744073709551616 := by
        rw [u64w (x := 18446744073709551615 - lim) (by omega) (by omega)]
        have : 0 ≤ mn more (18446744073709551615 - lim) ∧ mn more (18446744073709551615 - lim) ≤ 18446744073709551615 - lim := by unfold mn; split <;> omega
        rw [u64w (by omega) (by omega)]; omega
      refine bnd (total_f l m hl hm lim wl (by omega) _ (by omega)) ?_
      by_cases hc : dot l m ≤ lim
      · rw [capS_pos hc]
        dsimp only
        rw [if_pos rfl, hmn.1]
        refine bnd (total_f l m hl hm _ ⟨by omega, hmn.2.2⟩ (by omega) _ (by omega)) ?_
        refine bnd (total_f l m hl hm (dot l m) ⟨hnn, by omega⟩ (by omega) _ (by omega)) ?_
        rw [capS_pos (by omega), capS_pos (Int.le_refl _)]
        dsimp only
        rw [if_pos rfl, if_pos rfl, if_pos rfl, if_pos rfl, decide_eq_false (by omega)]
        simp only [zoneinfolaw03_SizesLimitIsMonotone.j1]
        rw [if_neg (by decide)]
        by_cases hz : dot l m = 0
        · rw [if_pos hz]
        · rw [if_neg hz, u64w (by omega) (by omega)]
          refine bnd (total_f l m hl hm (dot l m - 1) ⟨by omega, by omega⟩ (by omega) _ (by omega)) ?_
          rw [capS_neg (by omega)]; rfl
      · rw [capS_neg hc]; rfl
end Go.Proofs.Ytljompndopfflaa.Pure
