/- Indicators: all functions are what the reference says: the plain law behind the walk. No condition. -/
import Derived.Test.YtbiglbdanppjpaaDoorWWords
import Derived.Test.YtbiglbdanppjpaaDoorWMore
import Derived.Test.YtbiglbdanppjpaaDoorOwn
import Derived.Test.YtbiglbdanppjpaaDoorGx3
import Derived.Test.YtbiglbdanppjpaaDoorBase
import Derived.Test.YtbiglbdanppjpaaDoorInd
set_option linter.unusedVariables false
set_option linter.unusedSimpArgs false
namespace Go.Proofs.YtbiglbdanppjpaaDoor.Pure
open Go.RowKit Go.Proofs.YtbiglbdanppjpaaDoor.G Go.Proofs.YtbiglbdanppjpaaDoorW.PrintWords Go.Proofs.YtbiglbdanppjpaaDoorW.PrintLast Go.Proofs.YtbiglbdanppjpaaDoorW.PrintMore

theorem IndicatorsMatchReference : zoneinfolaw18_IndicatorsMatchReference.Pure := by
  intro b s u _ _ hb _ _ _ _
  have hb := Byt.of hb
  refine ⟨2000, ?_⟩
  unfold zoneinfolaw18_IndicatorsMatchReference.f
  refine bnd (awake18 _ (by omega)) ?_
  rw [if_pos rfl]
  have far : zoneinfolaw18_IndicatorsMatchReference.j0 2000 b s u true = some true := by
    rw [zoneinfolaw18_IndicatorsMatchReference.j0, if_pos rfl]
    exact bnd (awake18 _ (by omega)) rfl
  split
  · exact far
  split
  · exact far
  by_cases h2 : (u.length : Int) > 1000
  · rw [decide_eq_true h2]; exact far
  rw [decide_eq_false h2, zoneinfolaw18_IndicatorsMatchReference.j0, if_neg (by decide)]
  refine bnd (idec_f b hb (by omega) _ (by omega)) ?_
  refine bnd (ridec_f b hb (by omega) _ (by omega)) ?_
  have hd : (decB [] b).1.length ≤ 1000 := by
    unfold decB
    split
    · simp [boolsOf]; omega
    · simp
  refine bnd (same18_f _ _ (by omega) _ (by omega)) ?_
  rw [if_pos (by simp), if_pos (by simp)]
  refine bnd (ienc_f s (by omega) _ (by omega)) ?_
  refine bnd (rienc_f s (by omega) _ (by omega)) ?_
  refine bnd (same01_f _ _ (by rw [encB_length]; omega) _ (by rw [encB_length]; omega)) ?_
  rw [if_pos (by simp)]
  refine bnd (icons_f s u (by omega) _ (by omega)) ?_
  refine bnd (ricons_f s u (by omega) _ (by omega)) ?_
  simp
end Go.Proofs.YtbiglbdanppjpaaDoor.Pure
