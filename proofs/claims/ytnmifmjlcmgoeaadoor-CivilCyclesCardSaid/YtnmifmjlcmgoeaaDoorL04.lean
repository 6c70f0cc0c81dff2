/- Layer 4: the fixed examples, the range of days. -/
import Derived.Test.YtnmifmjlcmgoeaaDoorWWords
import Derived.Test.YtnmifmjlcmgoeaaDoorWMore
import Derived.Test.YtnmifmjlcmgoeaaDoorOwn
import Derived.Test.YtnmifmjlcmgoeaaDoorGx14
import Derived.Test.YtnmifmjlcmgoeaaDoorGx8
import Derived.Test.YtnmifmjlcmgoeaaDoorBase
import Derived.Test.YtnmifmjlcmgoeaaDoorCal
import Derived.Test.YtnmifmjlcmgoeaaDoorCal2
import Derived.Test.YtnmifmjlcmgoeaaDoorCal3
import Derived.Test.YtnmifmjlcmgoeaaDoorVal
set_option linter.unusedVariables false
namespace Go.Proofs.YtnmifmjlcmgoeaaDoor.Pure
open Go.RowKit Go.Proofs.YtnmifmjlcmgoeaaDoor.G Go.Proofs.YtnmifmjlcmgoeaaDoorW.PrintWords Go.Proofs.YtnmifmjlcmgoeaaDoorW.PrintLast Go.Proofs.YtnmifmjlcmgoeaaDoorW.PrintMore

theorem awake04 : zoneinfolaw04_awake.f = some true := by decide +kernel
theorem inRange_f (day : Int) (k : Nat) (hk : 500 ≤ k) : zoneinforef04_InRange.f k day = some (decide (D (-1099511627776) 1 1 ≤ day ∧ day ≤ D 1099511627776 12 31)) := by
  unfold zoneinforef04_InRange.f
  refine bnd (rDays_f _ 1 1 (by unfold Yr; omega) (by omega) (by omega) (by omega) k hk) ?_
  by_cases h : day ≥ D (-1099511627776) 1 1
  · rw [if_pos h]
    refine bnd (rDays_f _ 12 31 (by unfold Yr; omega) (by omega) (by omega) (by omega) k hk) ?_
    congr 1
    rw [decide_eq_decide]; constructor
    · intro g; exact ⟨h, g⟩
    · intro g; exact g.2
  · rw [if_neg h, decide_eq_false (by omega)]
end Go.Proofs.YtnmifmjlcmgoeaaDoor.Pure
