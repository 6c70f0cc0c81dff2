/- The bytes of joined indicators are the joined bytes, and tell them apart: the plain law behind the walk. No condition. -/
import Derived.Test.YtbiglbdanppjpaaDoorWWords
import Derived.Test.YtbiglbdanppjpaaDoorWMore
import Derived.Test.YtbiglbdanppjpaaDoorOwn
import Derived.Test.YtbiglbdanppjpaaDoorGx6
import Derived.Test.YtbiglbdanppjpaaDoorBase
import Derived.Test.YtbiglbdanppjpaaDoorInd
set_option linter.unusedVariables false
set_option linter.unusedSimpArgs false
namespace Go.Proofs.YtbiglbdanppjpaaDoor.Pure
open Go.RowKit Go.Proofs.YtbiglbdanppjpaaDoor.G Go.Proofs.YtbiglbdanppjpaaDoorW.PrintWords Go.Proofs.YtbiglbdanppjpaaDoorW.PrintLast Go.Proofs.YtbiglbdanppjpaaDoorW.PrintMore

theorem IndicatorsConcatenate : zoneinfolaw18_IndicatorsConcatenate.Pure := by
  intro a b _ _ _ _
  refine ⟨3000, ?_⟩
  unfold zoneinfolaw18_IndicatorsConcatenate.f
  refine bnd (awake18 _ (by omega)) ?_
  rw [if_pos rfl]
  have far : zoneinfolaw18_IndicatorsConcatenate.j0 3000 a b true = some true := by
    rw [zoneinfolaw18_IndicatorsConcatenate.j0, if_pos rfl]
    exact bnd (awake18 _ (by omega)) rfl
  split
  · exact far
  by_cases h2 : (b.length : Int) > 500
  · rw [decide_eq_true h2]; exact far
  rw [decide_eq_false h2, zoneinfolaw18_IndicatorsConcatenate.j0, if_neg (by decide)]
  have la := encB_length a
  have lb := encB_length b
  refine bnd rfl ?_
  rw [if_pos (by simp; omega)]
  refine bnd rfl ?_
  rw [if_pos (by simp; omega), List.nil_append]
  refine bnd rfl ?_
  refine bnd (ienc_f a (by omega) _ (by omega)) ?_
  rw [if_pos (by simp; omega)]
  refine bnd rfl ?_
  refine bnd (ienc_f b (by omega) _ (by omega)) ?_
  rw [if_pos (by simp; omega), List.nil_append]
  refine bnd (ienc_f (a ++ b) (by rw [List.length_append]; omega) _ (by rw [List.length_append]; omega)) ?_
  rw [encB_append]
  refine bnd (same01_f _ _ (by simp; omega) _ (by simp; omega)) ?_
  rw [if_pos (by simp)]
  refine bnd (ienc_f a (by omega) _ (by omega)) ?_
  refine bnd (ienc_f b (by omega) _ (by omega)) ?_
  refine bnd (same01_f _ _ (by omega) _ (by omega)) ?_
  refine bnd (same18_f a b (by omega) _ (by omega)) ?_
  have : decide (encB a = encB b) = decide (a = b) := decide_eq_decide.2 (encB_inj a b)
  rw [this]; simp
end Go.Proofs.YtbiglbdanppjpaaDoor.Pure
