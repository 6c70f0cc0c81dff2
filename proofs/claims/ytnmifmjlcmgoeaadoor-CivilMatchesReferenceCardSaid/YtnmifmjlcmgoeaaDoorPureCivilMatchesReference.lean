/- For every valid date and every day number in the domain the functions of civil return what the reference returns: the plain law behind the walk. No condition. -/
import Derived.Test.YtnmifmjlcmgoeaaDoorWWords
import Derived.Test.YtnmifmjlcmgoeaaDoorWMore
import Derived.Test.YtnmifmjlcmgoeaaDoorOwn
import Derived.Test.YtnmifmjlcmgoeaaDoorGx18
import Derived.Test.YtnmifmjlcmgoeaaDoorBase
import Derived.Test.YtnmifmjlcmgoeaaDoorCal
import Derived.Test.YtnmifmjlcmgoeaaDoorCal2
import Derived.Test.YtnmifmjlcmgoeaaDoorCal3
import Derived.Test.YtnmifmjlcmgoeaaDoorL04
set_option linter.unusedVariables false
namespace Go.Proofs.YtnmifmjlcmgoeaaDoor.Pure
open Go.RowKit Go.Proofs.YtnmifmjlcmgoeaaDoor.G Go.Proofs.YtnmifmjlcmgoeaaDoorW.PrintWords Go.Proofs.YtnmifmjlcmgoeaaDoorW.PrintLast Go.Proofs.YtnmifmjlcmgoeaaDoorW.PrintMore

theorem matches_0 (y m d : Int) (k : Nat) (hk : 500 ≤ k) : zoneinfolaw04_CivilMatchesReference.j0 (k + 1) y m d = some true := by
  simp only [zoneinfolaw04_CivilMatchesReference.j0]
  refine bnd (valid_f y m d k (by omega)) ?_
  by_cases h : -1099511627776 ≤ y ∧ y ≤ 1099511627776 ∧ Dt y m d
  · rw [decide_eq_true h, if_pos rfl]
    obtain ⟨h1, h2, h3⟩ := h
    have hs := Dt_small h3
    have hy : Yr y := by unfold Yr; omega
    refine bnd (isLeap_f y) ?_
    refine bnd (rIsLeap_f y) ?_
    rw [if_pos (by simp)]
    refine bnd (monthDays_f y m h3.1 h3.2.1) ?_
    refine bnd (rMonthDays_f y m k (by omega)) ?_
    rw [if_pos rfl]
    refine bnd (days_f y m d hy h3.1 h3.2.1 (by omega)) ?_
    refine bnd (rDays_f y m d hy h3.1 h3.2.1 (by omega) k hk) ?_
    rw [if_pos rfl]
    refine bnd (yearDay_f y m d hy h3.1 h3.2.1 (by omega)) ?_
    refine bnd (rYearDay_f y m d h3.1 h3.2.1 (by omega) k (by omega)) ?_
    simp
  · rw [decide_eq_false h, if_neg (by decide)]
theorem CivilMatchesReference : zoneinfolaw04_CivilMatchesReference.Pure := by
  intro y m d day _ _ _ _
  refine ⟨600 + 1, ?_⟩
  unfold zoneinfolaw04_CivilMatchesReference.f
  refine bnd awake04 ?_
  rw [if_pos rfl]
  refine bnd (inRange_f day _ (by omega)) ?_
  by_cases h : D (-1099511627776) 1 1 ≤ day ∧ day ≤ D 1099511627776 12 31
  · rw [decide_eq_true h, if_pos rfl]
    have hin := inRange_InD h
    obtain ⟨a, b, c, h1, h2, h3, _⟩ := date_f day hin
    obtain ⟨a', b', c', g1, g2, g3, _⟩ := rDate_f day hin (600 + 1) (by omega)
    obtain ⟨rfl, rfl, rfl⟩ := D_inj h2 g2 (h3.trans g3.symm)
    refine bnd h1 ?_
    refine bnd g1 ?_
    dsimp only
    rw [if_pos rfl, if_pos rfl, if_pos rfl]
    unfold InD at hin
    refine bnd (weekday_f day (by omega)) ?_
    refine bnd (rWeekday_f day (by omega)) ?_
    rw [if_pos rfl]
    exact matches_0 y m d 600 (by omega)
  · rw [decide_eq_false h, if_neg (by decide)]
    exact matches_0 y m d 600 (by omega)
end Go.Proofs.YtnmifmjlcmgoeaaDoor.Pure
