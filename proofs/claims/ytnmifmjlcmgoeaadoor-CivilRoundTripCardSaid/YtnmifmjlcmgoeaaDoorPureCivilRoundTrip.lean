/- Date(Days(date)) is the date, Days(Date(day)) is the day, and Date always returns a valid date: the plain law behind the walk. No condition. -/
import Derived.Test.YtnmifmjlcmgoeaaDoorWWords
import Derived.Test.YtnmifmjlcmgoeaaDoorWMore
import Derived.Test.YtnmifmjlcmgoeaaDoorOwn
import Derived.Test.YtnmifmjlcmgoeaaDoorGx19
import Derived.Test.YtnmifmjlcmgoeaaDoorBase
import Derived.Test.YtnmifmjlcmgoeaaDoorCal
import Derived.Test.YtnmifmjlcmgoeaaDoorCal2
import Derived.Test.YtnmifmjlcmgoeaaDoorCal3
import Derived.Test.YtnmifmjlcmgoeaaDoorL04
set_option linter.unusedVariables false
namespace Go.Proofs.YtnmifmjlcmgoeaaDoor.Pure
open Go.RowKit Go.Proofs.YtnmifmjlcmgoeaaDoor.G Go.Proofs.YtnmifmjlcmgoeaaDoorW.PrintWords Go.Proofs.YtnmifmjlcmgoeaaDoorW.PrintLast Go.Proofs.YtnmifmjlcmgoeaaDoorW.PrintMore

theorem D_InD {y m d : Int} (h1 : -1099511627776 ≤ y ∧ y ≤ 1099511627776) (h : Dt y m d) : InD (D y m d) := by
  have hs := Dt_small h
  have f := yd_le y m h.1 (by have := h.2.1; omega)
  unfold InD D J Mz
  omega
theorem round_0 (y m d : Int) (k : Nat) (hk : 500 ≤ k) : zoneinfolaw04_CivilRoundTrip.j0 (k + 1) y m d = some true := by
  simp only [zoneinfolaw04_CivilRoundTrip.j0]
  refine bnd (valid_f y m d k (by omega)) ?_
  by_cases h : -1099511627776 ≤ y ∧ y ≤ 1099511627776 ∧ Dt y m d
  · rw [decide_eq_true h, if_pos rfl]
    obtain ⟨h1, h2, h3⟩ := h
    have hs := Dt_small h3
    have hy : Yr y := by unfold Yr; omega
    refine bnd (days_f y m d hy h3.1 h3.2.1 (by omega)) ?_
    obtain ⟨a, b, c, g1, g2, g3, _⟩ := date_f (D y m d) (D_InD ⟨h1, h2⟩ h3)
    obtain ⟨rfl, rfl, rfl⟩ := D_inj g2 h3 g3
    refine bnd g1 ?_
    dsimp only
    rw [if_pos rfl, if_pos rfl]; simp
  · rw [decide_eq_false h, if_neg (by decide)]
theorem CivilRoundTrip : zoneinfolaw04_CivilRoundTrip.Pure := by
  intro y m d day _ _ _ _
  refine ⟨600 + 1, ?_⟩
  unfold zoneinfolaw04_CivilRoundTrip.f
  refine bnd awake04 ?_
  rw [if_pos rfl]
  refine bnd (inRange_f day _ (by omega)) ?_
  by_cases h : D (-1099511627776) 1 1 ≤ day ∧ day ≤ D 1099511627776 12 31
  · rw [decide_eq_true h, if_pos rfl]
    have hin := inRange_InD h
    obtain ⟨a, b, c, h1, h2, h3, _⟩ := date_f day hin
    have hyr := year_of_range h h2 h3
    have hs := Dt_small h2
    refine bnd h1 ?_
    dsimp only
    refine bnd (valid_f a b c _ (by omega)) ?_
    rw [decide_eq_true ⟨hyr.1, hyr.2, h2⟩, if_pos rfl]
    refine bnd (days_f a b c (by unfold Yr; omega) h2.1 h2.2.1 (by omega)) ?_
    rw [if_pos h3]
    exact round_0 y m d 600 (by omega)
  · rw [decide_eq_false h, if_neg (by decide)]
    exact round_0 y m d 600 (by omega)
end Go.Proofs.YtnmifmjlcmgoeaaDoor.Pure
