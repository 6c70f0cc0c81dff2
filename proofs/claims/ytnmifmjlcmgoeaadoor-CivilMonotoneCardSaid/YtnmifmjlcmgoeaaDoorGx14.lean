/- Written by a program of this session for this seat: contracts of the functions that its laws reach, or the row of a law over its plain part. -/
import Derived.Test.YtnmifmjlcmgoeaaDoorGx0
import Derived.Test.YtnmifmjlcmgoeaaDoorGx13
namespace Go.Proofs.YtnmifmjlcmgoeaaDoor.G
open Go.RowKit Go.Proofs.YtnmifmjlcmgoeaaDoorW.PrintWords Go.Proofs.YtnmifmjlcmgoeaaDoorW.PrintLast Go.Proofs.YtnmifmjlcmgoeaaDoorW.PrintMore
attribute [local go_sem] max2_int min2_int max_two min_two max_three min_three max_four min_four   -- for this text's walks alone
set_option linter.unusedVariables false
set_option linter.unusedSimpArgs false

/-! ### zoneinforef04_InRange: function 9 -/
def zoneinforef04_InRange.f (k : Nat) (a0 : Int) : Option (Bool) := (zoneinforef04_Days.f k (-1099511627776) 1 1).bind fun t136 => (if a0 ≥ t136 then ((zoneinforef04_Days.f k 1099511627776 12 31).bind fun t137 => (some (decide (a0 ≤ t137)))) else (some false))
theorem zoneinforef04_InRange.mono : ∀ a0 k, LeO (zoneinforef04_InRange.f k a0) (zoneinforef04_InRange.f (k + 1) a0) := by
  intro a0 k
  unfold zoneinforef04_InRange.f
  repeat' first
      | (with_reducible exact zoneinforef04_Days.mono _ _ _ _)
      | (with_reducible exact LeO.refl _)
      | (with_reducible exact LeO.none _)
      | (with_reducible refine LeO.ite ?_ ?_)
      | (with_reducible refine LeO.bind ?_ (fun _ => ?_))
      | exact zoneinforef04_Days.mono _ _ _ _
      | exact LeO.none _
      | refine LeO.ite ?_ ?_
      | refine LeO.bind ?_ (fun _ => ?_)
set_option maxHeartbeats 8000000 in
set_option maxRecDepth 100000 in
theorem zoneinforef04_InRange.calls (k : Nat) (a0 : Int) (r : Bool) (w : World) (h : zoneinforef04_InRange.f k a0 = some r) :
    Calls Tryd.prog 9 #[.int .i64 a0] w fun e w' => e = .returned (.bool r) ∧ Drawn0 w w' := by
  have H : ((zoneinforef04_Days.f k (-1099511627776) 1 1).bind fun t136 => (if a0 ≥ t136 then ((zoneinforef04_Days.f k 1099511627776 12 31).bind fun t137 => (some (decide (a0 ≤ t137)))) else (some false))) = some r := h
  clear h
  replace H := Option.bind_eq_some_iff.mp H
  obtain ⟨t136, A20, H⟩ := H
  replace H : (if a0 ≥ t136 then ((zoneinforef04_Days.f k 1099511627776 12 31).bind fun t137 => (some (decide (a0 ≤ t137)))) else (some false)) = some r := H
  have A2 := Aside0.mk A20
  clear A20
  by_cases c3 : a0 ≥ t136
  · rw [if_pos c3] at H
    have c3b0 : decide (t136 ≤ a0) = true := decide_eq_true c3
    clear c3
    replace H := Option.bind_eq_some_iff.mp H
    obtain ⟨t137, A40, H⟩ := H
    replace H : (some (decide (a0 ≤ t137))) = some r := H
    have A4 := Aside0.mk A40
    clear A40
    obtain rfl := Option.some.inj H
    go_enter Tryd.func9, Tryd.ntmps9
    go_wp2_with (first | (go_at_call 20; (with_reducible refine (zoneinforef04_Days.calls k (-1099511627776) 1 1 t136 _ A2.out).mono ?_); rintro e w' ⟨rfl, ⟨nd, rfl⟩⟩) | (go_at_call 20; (with_reducible refine (zoneinforef04_Days.calls k 1099511627776 12 31 t137 _ A4.out).mono ?_); rintro e w' ⟨rfl, ⟨nd, rfl⟩⟩))
    go_ret
    exact ⟨by first | rfl | (simp; done) | (simp [*]; done), by repeat (first | exact Drawn0.refl _ | apply Drawn0.step)⟩
  · rw [if_neg c3] at H
    have c3b0 : decide (t136 ≤ a0) = false := decide_eq_false c3
    clear c3
    obtain rfl := Option.some.inj H
    go_enter Tryd.func9, Tryd.ntmps9
    go_wp2_with (first | (go_at_call 20; (with_reducible refine (zoneinforef04_Days.calls k (-1099511627776) 1 1 t136 _ A2.out).mono ?_); rintro e w' ⟨rfl, ⟨nd, rfl⟩⟩))
    go_ret
    exact ⟨by first | rfl | (simp; done) | (simp [*]; done), by repeat (first | exact Drawn0.refl _ | apply Drawn0.step)⟩

end Go.Proofs.YtnmifmjlcmgoeaaDoor.G
