/- The date after a date has the next day number and the next weekday; the last day of a month is followed by the first of the next one: the plain law behind the walk. No condition. -/
import Derived.Test.YtnmifmjlcmgoeaaDoorWWords
import Derived.Test.YtnmifmjlcmgoeaaDoorWMore
import Derived.Test.YtnmifmjlcmgoeaaDoorOwn
import Derived.Test.YtnmifmjlcmgoeaaDoorGx20
import Derived.Test.YtnmifmjlcmgoeaaDoorGx3
import Derived.Test.YtnmifmjlcmgoeaaDoorBase
import Derived.Test.YtnmifmjlcmgoeaaDoorCal
import Derived.Test.YtnmifmjlcmgoeaaDoorCal2
import Derived.Test.YtnmifmjlcmgoeaaDoorCal3
import Derived.Test.YtnmifmjlcmgoeaaDoorL04
set_option linter.unusedVariables false
namespace Go.Proofs.YtnmifmjlcmgoeaaDoor.Pure
open Go.RowKit Go.Proofs.YtnmifmjlcmgoeaaDoor.G Go.Proofs.YtnmifmjlcmgoeaaDoorW.PrintWords Go.Proofs.YtnmifmjlcmgoeaaDoorW.PrintLast Go.Proofs.YtnmifmjlcmgoeaaDoorW.PrintMore

theorem next_end (y' m' d' n : Int) (hn : -500000000000000 ≤ n ∧ n ≤ 500000000000000) : ((civil_Weekday.f (wrap64 (n + 1))).bind fun t181 => ((civil_Weekday.f n).bind fun t182 => (some (t181 == (Int.tmod (wrap64 (t182 + 1)) 7))))) = some true := by
  rw [w64 (by omega) (by omega)]
  refine bnd (weekday_f (n + 1) (by omega)) ?_
  refine bnd (weekday_f n (by omega)) ?_
  rw [w64 (by omega) (by omega), Int.tmod_eq_emod_of_nonneg (by omega)]
  congr 1; rw [beq_iff_eq]; omega
theorem CivilNextDay : zoneinfolaw04_CivilNextDay.Pure := by
  intro y m d _ _ _
  refine ⟨600 + 1 + 1, ?_⟩
  unfold zoneinfolaw04_CivilNextDay.f
  have out : zoneinfolaw04_CivilNextDay.j0 (600 + 1 + 1) y m d true = some true := by
    simp only [zoneinfolaw04_CivilNextDay.j0, if_true]
    exact bnd awake04 rfl
  refine bnd awake04 ?_
  rw [if_pos rfl]
  refine bnd (valid_f y m d _ (by omega)) ?_
  by_cases h : -1099511627776 ≤ y ∧ y ≤ 1099511627776 ∧ Dt y m d
  · rw [decide_eq_true h, if_pos rfl]
    obtain ⟨h1, h2, h3⟩ := h
    by_cases h4 : y ≥ 1099511627776
    · rw [decide_eq_true h4]; exact out
    · rw [decide_eq_false h4]
      have hs := Dt_small h3
      have hy : Yr y := by unfold Yr; omega
      have hb : -500000000000000 ≤ D y m d ∧ D y m d ≤ 499999999999999 := by
        have f := yd_le y m h3.1 (by have := h3.2.1; omega)
        unfold D J Mz; omega
      have hmd := md_bound y m
      have hm1 := h3.1
      have hm2 := h3.2.1
      simp only [zoneinfolaw04_CivilNextDay.j0]
      rw [if_neg (by decide)]
      refine bnd (days_f y m d hy h3.1 h3.2.1 (by omega)) ?_
      rw [w64 (x := D y m d + 1) (by omega) (by omega)]
      obtain ⟨a, b, c, g1, g2, g3, _⟩ := date_f (D y m d + 1) (by unfold InD; omega)
      refine bnd g1 ?_
      dsimp only
      refine bnd (monthDays_f y m h3.1 h3.2.1) ?_
      rw [w64 (x := d + 1) (by omega) (by omega), w64 (x := m + 1) (by omega) (by omega)]
      have key : ∀ y' m' d' : Int, Dt y' m' d' → D y' m' d' = D y m d + 1 → a = y' ∧ b = m' ∧ c = d' := fun y' m' d' q1 q2 => D_inj g2 q1 (g3.trans q2.symm)
      by_cases hl : d + 1 > md y m
      · rw [if_pos hl]
        have hdm : d = md y m := by have := h3.2.2.2; omega
        simp only [zoneinfolaw04_CivilNextDay.j1]
        by_cases h12 : m + 1 > 12
        · rw [if_pos h12, w64 (x := y + 1) (by omega) (by omega)]
          obtain rfl : m = 12 := by omega
          obtain ⟨rfl, rfl, rfl⟩ := key (y + 1) 1 1 ⟨by omega, by omega, by omega, by have := md_bound (y + 1) 1; omega⟩ (by
            have e := yd_step y 12 (by omega) (by omega)
            rw [show (12 : Int) + 1 = 13 by omega, yd_13] at e
            have j := J_step y
            unfold D; rw [yd_1]; omega)
          rw [if_pos rfl, if_pos rfl, if_pos rfl]
          exact next_end 0 0 0 _ (by omega)
        · rw [if_neg h12]
          obtain ⟨rfl, rfl, rfl⟩ := key y (m + 1) 1 ⟨by omega, by omega, by omega, by have := md_bound y (m + 1); omega⟩ (by
            have e := yd_step y m (by omega) (by omega)
            unfold D; omega)
          rw [if_pos rfl, if_pos rfl, if_pos rfl]
          exact next_end 0 0 0 _ (by omega)
      · rw [if_neg hl]
        simp only [zoneinfolaw04_CivilNextDay.j1]
        rw [if_neg (by omega)]
        obtain ⟨rfl, rfl, rfl⟩ := key y m (d + 1) ⟨h3.1, h3.2.1, by omega, by omega⟩ (by unfold D; omega)
        rw [if_pos rfl, if_pos rfl, if_pos rfl]
        exact next_end 0 0 0 _ (by omega)
  · rw [decide_eq_false h, if_neg (by decide)]; exact out
end Go.Proofs.YtnmifmjlcmgoeaaDoor.Pure
