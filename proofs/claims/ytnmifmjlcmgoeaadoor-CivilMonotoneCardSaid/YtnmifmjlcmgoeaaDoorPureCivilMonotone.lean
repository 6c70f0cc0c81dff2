/- Later dates have larger day numbers, and the difference within a year is the difference of the days of the year: the plain law behind the walk. No condition. -/
import Derived.Test.YtnmifmjlcmgoeaaDoorWWords
import Derived.Test.YtnmifmjlcmgoeaaDoorWMore
import Derived.Test.YtnmifmjlcmgoeaaDoorOwn
import Derived.Test.YtnmifmjlcmgoeaaDoorGx22
import Derived.Test.YtnmifmjlcmgoeaaDoorGx6
import Derived.Test.YtnmifmjlcmgoeaaDoorGx7
import Derived.Test.YtnmifmjlcmgoeaaDoorBase
import Derived.Test.YtnmifmjlcmgoeaaDoorCal
import Derived.Test.YtnmifmjlcmgoeaaDoorCal2
import Derived.Test.YtnmifmjlcmgoeaaDoorCal3
import Derived.Test.YtnmifmjlcmgoeaaDoorVal
import Derived.Test.YtnmifmjlcmgoeaaDoorL04
set_option linter.unusedVariables false
namespace Go.Proofs.YtnmifmjlcmgoeaaDoor.Pure
open Go.RowKit Go.Proofs.YtnmifmjlcmgoeaaDoor.G Go.Proofs.YtnmifmjlcmgoeaaDoorW.PrintWords Go.Proofs.YtnmifmjlcmgoeaaDoorW.PrintLast Go.Proofs.YtnmifmjlcmgoeaaDoorW.PrintMore

theorem CivilMonotone : zoneinfolaw04_CivilMonotone.Pure := by
  intro y m d p q _ _ _ _ _
  refine ⟨600 + 1, ?_⟩
  unfold zoneinfolaw04_CivilMonotone.f
  have out : zoneinfolaw04_CivilMonotone.j0 (600 + 1) y m d p q true = some true := by
    simp only [zoneinfolaw04_CivilMonotone.j0, if_true]
    exact bnd awake04 rfl
  refine bnd awake04 ?_
  rw [if_pos rfl]
  refine bnd (valid_f y m d _ (by omega)) ?_
  by_cases h : -1099511627776 ≤ y ∧ y ≤ 1099511627776 ∧ Dt y m d
  · rw [decide_eq_true h, if_pos rfl]
    refine bnd (valid_f y p q _ (by omega)) ?_
    by_cases g : -1099511627776 ≤ y ∧ y ≤ 1099511627776 ∧ Dt y p q
    · rw [decide_eq_true g, if_pos rfl]
      obtain ⟨h1, h2, h3⟩ := h
      obtain ⟨_, _, g3⟩ := g
      by_cases h4 : y ≥ 1099511627776
      · rw [decide_eq_true h4]; exact out
      · rw [decide_eq_false h4]
        have hs := Dt_small h3
        have gs := Dt_small g3
        have hY : Yr y := by unfold Yr; omega
        have dm : Dt y m d := h3
        have dp : Dt y p q := g3
        have a1 := D_bound y m d hY h3.1 h3.2.1 (by omega)
        have a2 := D_bound y p q hY g3.1 g3.2.1 (by omega)
        have s1 := D_sub y m d
        have s2 := D_sub y p q
        have nx : D (y + 1) 1 1 > D y m d := by
          have := (Dt_in h3).2
          unfold D at this ⊢; rw [yd_1]; omega
        have fm : civil_YearDay.f y m d = some (yd y m + d - 1) := yearDay_f y m d hY h3.1 h3.2.1 (by omega)
        have fp : civil_YearDay.f y p q = some (yd y p + q - 1) := yearDay_f y p q hY g3.1 g3.2.1 (by omega)
        have fin : ((civil_YearDay.f y p q).bind fun t206 => ((civil_YearDay.f y m d).bind fun t207 => (if (wrap64 (D y p q - D y m d)) = (wrap64 (t206 - t207)) then ((civil_Days.f (wrap64 (y + 1)) 1 1).bind fun t208 => (some (decide (t208 > D y m d)))) else (none)))) = some true := by
          refine bnd fp ?_
          refine bnd fm ?_
          rw [if_pos (by rw [show D y p q - D y m d = yd y p + q - 1 - (yd y m + d - 1) by omega]), w64 (x := y + 1) (by omega) (by omega)]
          refine bnd (days_f (y + 1) 1 1 (by unfold Yr; omega) (by omega) (by omega) (by omega)) ?_
          rw [decide_eq_true nx]
        simp only [zoneinfolaw04_CivilMonotone.j0]
        rw [if_neg (by decide)]
        refine bnd (days_f y m d hY h3.1 h3.2.1 (by omega)) ?_
        refine bnd (days_f y p q hY g3.1 g3.2.1 (by omega)) ?_
        by_cases hl : m < p
        · have := D_lt_month dm dp hl
          rw [if_pos hl, decide_eq_true this, if_pos (by decide)]
          exact fin
        · rw [if_neg hl]
          by_cases he : m = p
          · subst he
            have : (D y m d < D y m q) ↔ d < q := by unfold D; omega
            rw [if_pos rfl, show decide (D y m d < D y m q) = decide (d < q) from decide_eq_decide.2 this, if_pos (by simp)]
            exact fin
          · have := D_lt_month dp dm (by omega)
            rw [if_neg he, decide_eq_false (by omega), if_pos (by decide)]
            exact fin
    · rw [decide_eq_false g, if_neg (by decide)]; exact out
  · rw [decide_eq_false h, if_neg (by decide)]; exact out
end Go.Proofs.YtnmifmjlcmgoeaaDoor.Pure
