/- Valid dates, and the years of the days of the range. -/
import Derived.Test.YtmfffkmnddeajaaDoorWWords
import Derived.Test.YtmfffkmnddeajaaDoorWMore
import Derived.Test.YtmfffkmnddeajaaDoorOwn
import Derived.Test.YtmfffkmnddeajaaDoorGx6
import Derived.Test.YtmfffkmnddeajaaDoorBase
import Derived.Test.YtmfffkmnddeajaaDoorCal
import Derived.Test.YtmfffkmnddeajaaDoorCal2
import Derived.Test.YtmfffkmnddeajaaDoorCal3
set_option linter.unusedVariables false
namespace Go.Proofs.YtmfffkmnddeajaaDoor.Pure
open Go.RowKit Go.Proofs.YtmfffkmnddeajaaDoor.G Go.Proofs.YtmfffkmnddeajaaDoorW.PrintWords Go.Proofs.YtmfffkmnddeajaaDoorW.PrintLast Go.Proofs.YtmfffkmnddeajaaDoorW.PrintMore

instance (y m d : Int) : Decidable (Dt y m d) := by unfold Dt; infer_instance
theorem valid_f (y m d : Int) (k : Nat) (hk : 1 ≤ k) : zoneinforef04_Valid.f k y m d = some (decide (-1099511627776 ≤ y ∧ y ≤ 1099511627776 ∧ Dt y m d)) := by
  unfold zoneinforef04_Valid.f
  by_cases h1 : y ≥ -1099511627776
  · rw [if_pos h1]
    by_cases h2 : y ≤ 1099511627776
    · rw [if_pos h2]
      by_cases h3 : m ≥ 1
      · rw [if_pos h3]
        by_cases h4 : m ≤ 12
        · rw [if_pos h4]
          by_cases h5 : d ≥ 1
          · rw [if_pos h5]
            refine bnd (rMonthDays_f y m k hk) ?_
            congr 1
            rw [decide_eq_decide]; unfold Dt; constructor
            · intro h; exact ⟨h1, h2, h3, h4, h5, h⟩
            · intro h; exact h.2.2.2.2.2
          · rw [if_neg h5]; congr 1; symm; rw [decide_eq_false_iff_not]; unfold Dt; omega
        · rw [if_neg h4]; congr 1; symm; rw [decide_eq_false_iff_not]; unfold Dt; omega
      · rw [if_neg h3]; congr 1; symm; rw [decide_eq_false_iff_not]; unfold Dt; omega
    · rw [if_neg h2]; congr 1; symm; rw [decide_eq_false_iff_not]; unfold Dt; omega
  · rw [if_neg h1]; congr 1; symm; rw [decide_eq_false_iff_not]; unfold Dt; omega
theorem Dt_small {y m d : Int} (h : Dt y m d) : 1 ≤ d ∧ d ≤ 31 := by have := md_bound y m; unfold Dt at h; omega
theorem inRange_InD {day : Int} (h : D (-1099511627776) 1 1 ≤ day ∧ day ≤ D 1099511627776 12 31) : InD day := by
  unfold InD
  have h1 := (D_bound (-1099511627776) 1 1 (by unfold Yr; omega) (by omega) (by omega) (by omega)).1
  have a : -500000000000000 ≤ D (-1099511627776) 1 1 := by unfold D J Mz yd; omega
  have b : D 1099511627776 12 31 ≤ 500000000000000 := by have := lp_01 1099511627776; unfold D J Mz yd; omega
  omega
/-- A day of the range has a year of the range. -/
theorem year_of_range {day y m d : Int} (h : D (-1099511627776) 1 1 ≤ day ∧ day ≤ D 1099511627776 12 31) (hd : Dt y m d) (he : D y m d = day) : -1099511627776 ≤ y ∧ y ≤ 1099511627776 := by
  constructor
  · rcases Int.lt_or_le y (-1099511627776) with hl | hl
    · have := D_lt_year hd (y' := -1099511627776) (m' := 1) (d' := 1) ⟨by omega, by omega, by omega, by have := md_bound (-1099511627776) 1; omega⟩ hl
      omega
    · exact hl
  · rcases Int.lt_or_le 1099511627776 y with hl | hl
    · have := D_lt_year (y := 1099511627776) (m := 12) (d := 31) ⟨by omega, by omega, by omega, by show 31 ≤ (31 : Int); omega⟩ hd hl
      omega
    · exact hl
end Go.Proofs.YtmfffkmnddeajaaDoor.Pure
