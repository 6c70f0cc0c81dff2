/- The year that is told for a timestamp, and the bounds of that year: the plain law behind the walk. No condition. -/
import Derived.Test.YtmfffkmnddeajaaDoorWWords
import Derived.Test.YtmfffkmnddeajaaDoorWMore
import Derived.Test.YtmfffkmnddeajaaDoorOwn
import Derived.Test.YtmfffkmnddeajaaDoorGx11
import Derived.Test.YtmfffkmnddeajaaDoorBase
import Derived.Test.YtmfffkmnddeajaaDoorCal
import Derived.Test.YtmfffkmnddeajaaDoorCal2
import Derived.Test.YtmfffkmnddeajaaDoorCal3
import Derived.Test.YtmfffkmnddeajaaDoorVal
import Derived.Test.YtmfffkmnddeajaaDoorDtm
import Derived.Test.YtmfffkmnddeajaaDoorUnix
set_option linter.unusedVariables false
namespace Go.Proofs.YtmfffkmnddeajaaDoor.Pure
open Go.RowKit Go.Proofs.YtmfffkmnddeajaaDoor.G Go.Proofs.YtmfffkmnddeajaaDoorW.PrintWords Go.Proofs.YtmfffkmnddeajaaDoorW.PrintLast Go.Proofs.YtmfffkmnddeajaaDoorW.PrintMore

theorem D_jan (y : Int) : D y 1 1 = J y := by unfold D; rw [yd_1]; omega
theorem D_dec (y : Int) : D y 12 31 = J (y + 1) - 1 := by unfold D yd; rw [J_step]; simp; omega
theorem Dt_jan (y : Int) : Dt y 1 1 := by unfold Dt; have := md_bound y 1; omega
theorem Dt_dec (y : Int) : Dt y 12 31 := by unfold Dt md; simp
theorem DatetimeYears : zoneinfolaw05_DatetimeYears.Pure := by
  intro t h0
  have h0 := wf_i64 h0
  refine ⟨1000, ?_⟩
  unfold zoneinfolaw05_DatetimeYears.f
  refine bnd (awake_f _ (by omega)) ?_
  rw [if_pos rfl]
  have far : zoneinfolaw05_DatetimeYears.j0 1000 t true = some true := by
    rw [zoneinfolaw05_DatetimeYears.j0, if_pos rfl]
    exact bnd (awake_f _ (by omega)) rfl
  split
  · exact far
  rename_i h1
  by_cases h2 : t < -4611686018427387904
  · rw [decide_eq_true h2]; exact far
  rw [decide_eq_false h2, zoneinfolaw05_DatetimeYears.j0, if_neg (by decide)]
  have hI : I64 t := h0
  obtain ⟨y, m, d, ⟨hd, he, hy⟩, -, -⟩ := of_f t hI
  have hin := Dt_in hd
  rw [he] at hin
  refine bnd (yearOf_f t hI y m d hd he) ?_
  have js := J_step y
  have l := lp_01 y
  have yb : -200000000000 ≤ y ∧ y ≤ 200000000000 := by
    unfold J Mz at hin; omega
  have jb : -54000000000000 ≤ J y ∧ J y ≤ 54000000000000 := by omega
  rw [if_neg (by omega), decide_eq_false (by omega), zoneinfolaw05_DatetimeYears.j1, if_neg (by decide)]
  refine bnd (rDays_f y 1 1 (by unfold Yr; omega) (by omega) (by omega) (by omega) _ (by omega)) ?_
  rw [w64 (x := y + 1) (by omega) (by omega)]
  refine bnd (rDays_f (y + 1) 1 1 (by unfold Yr; omega) (by omega) (by omega) (by omega) _ (by omega)) ?_
  rw [D_jan, D_jan, w64 (x := J y * 86400) (by omega) (by omega), w64 (x := J (y + 1) * 86400) (by omega) (by omega), w64 (x := J (y + 1) * 86400 - 1) (by omega) (by omega), if_pos (by omega), if_pos (by omega)]
  refine bnd (yearOf_f _ (by unfold I64; omega) y 1 1 (Dt_jan y) (by rw [D_jan]; omega)) ?_
  rw [if_pos rfl]
  refine bnd (yearOf_f _ (by unfold I64; omega) (y + 1) 1 1 (Dt_jan _) (by rw [D_jan]; omega)) ?_
  rw [if_pos rfl]
  refine bnd (yearOf_f _ (by unfold I64; omega) y 12 31 (Dt_dec _) (by rw [D_dec]; omega)) ?_
  simp
end Go.Proofs.YtmfffkmnddeajaaDoor.Pure
