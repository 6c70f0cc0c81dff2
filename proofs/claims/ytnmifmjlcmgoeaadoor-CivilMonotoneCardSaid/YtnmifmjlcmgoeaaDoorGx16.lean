/- Written by a program of this session for this seat: contracts of the functions that its laws reach, or the row of a law over its plain part. -/
import Derived.Test.YtnmifmjlcmgoeaaDoorGx0
namespace Go.Proofs.YtnmifmjlcmgoeaaDoor.G
open Go.RowKit Go.Proofs.YtnmifmjlcmgoeaaDoorW.PrintWords Go.Proofs.YtnmifmjlcmgoeaaDoorW.PrintLast Go.Proofs.YtnmifmjlcmgoeaaDoorW.PrintMore
attribute [local go_sem] max2_int min2_int max_two min_two max_three min_three max_four min_four   -- for this text's walks alone
set_option linter.unusedVariables false
set_option linter.unusedSimpArgs false

/-! ### zoneinforef04_Weekday: function 13 -/
def zoneinforef04_Weekday.f (a0 : Int) : Option (Int) := if (Int.tmod (wrap64 (a0 - 3)) 7) < 0 then (some (wrap64 ((Int.tmod (wrap64 (a0 - 3)) 7) + 7))) else (some (Int.tmod (wrap64 (a0 - 3)) 7))
set_option maxHeartbeats 8000000 in
set_option maxRecDepth 100000 in
theorem zoneinforef04_Weekday.calls (a0 : Int) (r : Int) (w : World) (h : zoneinforef04_Weekday.f a0 = some r) :
    Calls Tryd.prog 13 #[.int .i64 a0] w fun e w' => e = .returned (.int .i64 r) ∧ Drawn0 w w' := by
  have H : (if (Int.tmod (wrap64 (a0 - 3)) 7) < 0 then (some (wrap64 ((Int.tmod (wrap64 (a0 - 3)) 7) + 7))) else (some (Int.tmod (wrap64 (a0 - 3)) 7))) = some r := h
  clear h
  by_cases c2 : (Int.tmod (wrap64 (a0 - 3)) 7) < 0
  · rw [if_pos c2] at H
    have c2b0 : decide ((Int.tmod (wrap64 (a0 - 3)) 7) < 0) = true := decide_eq_true c2
    clear c2
    obtain rfl := Option.some.inj H
    go_enter Tryd.func13, Tryd.ntmps13
    go_wp2
    go_ret
    exact ⟨by first | rfl | (simp; done) | (simp [*]; done), by repeat (first | exact Drawn0.refl _ | apply Drawn0.step)⟩
  · rw [if_neg c2] at H
    have c2b0 : decide ((Int.tmod (wrap64 (a0 - 3)) 7) < 0) = false := decide_eq_false c2
    clear c2
    obtain rfl := Option.some.inj H
    go_enter Tryd.func13, Tryd.ntmps13
    go_wp2
    go_ret
    exact ⟨by first | rfl | (simp; done) | (simp [*]; done), by repeat (first | exact Drawn0.refl _ | apply Drawn0.step)⟩

end Go.Proofs.YtnmifmjlcmgoeaaDoor.G
