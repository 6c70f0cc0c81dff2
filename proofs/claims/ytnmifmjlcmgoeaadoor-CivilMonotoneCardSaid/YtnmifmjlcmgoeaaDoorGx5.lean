/- Written by a program of this session for this seat: contracts of the functions that its laws reach, or the row of a law over its plain part. -/
import Derived.Test.YtnmifmjlcmgoeaaDoorGx0
import Derived.Test.YtnmifmjlcmgoeaaDoorGx4
namespace Go.Proofs.YtnmifmjlcmgoeaaDoor.G
open Go.RowKit Go.Proofs.YtnmifmjlcmgoeaaDoorW.PrintWords Go.Proofs.YtnmifmjlcmgoeaaDoorW.PrintLast Go.Proofs.YtnmifmjlcmgoeaaDoorW.PrintMore
attribute [local go_sem] max2_int min2_int max_two min_two max_three min_three max_four min_four   -- for this text's walks alone
set_option linter.unusedVariables false
set_option linter.unusedSimpArgs false

/-! ### civil_MonthDays: function 17 -/
def glens : List Int := [0, 31, 28, 31, 30, 31, 30, 31, 31, 30, 31, 30, 31]
abbrev GL (w : World) : Prop := Kd.C (Kd.int .i64) w (some ⟨0, 0, none⟩) glens.length glens
def civil_MonthDays.f (a0 : Int) (a1 : Int) : Option (Int) := if a1 = 2 then ((civil_IsLeap.f a0).bind fun t => (if t = true then (some 29) else (some 28))) else (if 0 ≤ a1 then (if a1 < 13 then (some (rd glens a1)) else (none)) else (none))
set_option maxHeartbeats 8000000 in
set_option maxRecDepth 100000 in
theorem civil_MonthDays.calls (a0 : Int) (a1 : Int) (r : Int) (w : World) (hrg : GL w) (h : civil_MonthDays.f a0 a1 = some r) :
    Calls Tryd.prog 17 #[.int .i64 a0, .int .i64 a1] w fun e w' => e = .returned (.int .i64 r) ∧ Drawn0 w w' := by
  have HRg := Aside0.mk hrg
  clear hrg
  have H : (if a1 = 2 then ((civil_IsLeap.f a0).bind fun t => (if t = true then (some 29) else (some 28))) else (if 0 ≤ a1 then (if a1 < 13 then (some (rd glens a1)) else (none)) else (none))) = some r := h
  clear h
  by_cases c1 : a1 = 2
  · rw [if_pos c1] at H
    subst c1
    replace H := Option.bind_eq_some_iff.mp H
    obtain ⟨t, A0, H⟩ := H
    have A1 := Aside0.mk A0
    clear A0
    obtain ⟨ad, e1, hx⟩ := Kd.at_int HRg.out 2 (by decide) (by decide)
    cases e1
    replace hx : w.cell? ⟨0, 2, none⟩ = some (.int .i64 28) := hx
    cases t with
    | true =>
      rw [if_pos rfl] at H
      obtain rfl := Option.some.inj H
      go_enter Tryd.func17, Tryd.ntmps17
      go_wp2_with (first | (go_at_call 15; (with_reducible refine (civil_IsLeap.calls a0 true _ A1.out).mono ?_); rintro e w' ⟨rfl, ⟨nd, rfl⟩⟩))
      repeat (go_quiet (fail); try go_wp2)
      go_ret
      exact ⟨by first | rfl | (simp; done) | (simp [*]; done), by repeat (first | exact Drawn0.refl _ | apply Drawn0.step)⟩
    | false =>
      rw [if_neg (by decide)] at H
      obtain rfl := Option.some.inj H
      go_enter Tryd.func17, Tryd.ntmps17
      go_wp2_with (first | (go_at_call 15; (with_reducible refine (civil_IsLeap.calls a0 false _ A1.out).mono ?_); rintro e w' ⟨rfl, ⟨nd, rfl⟩⟩))
      repeat (go_quiet (fail); try go_wp2)
      go_ret
      exact ⟨by first | rfl | (simp; done) | (simp [*]; done), by repeat (first | exact Drawn0.refl _ | apply Drawn0.step)⟩
  · rw [if_neg c1] at H
    have b0 : (a1 == 2) = false := beq_eq_false_iff_ne.mpr c1
    have b1 : (a1 != 2) = true := bne_iff_ne.mpr c1
    clear c1
    by_cases p : 0 ≤ a1
    · rw [if_pos p] at H
      by_cases q : a1 < 13
      · rw [if_pos q] at H
        obtain rfl := Option.some.inj H
        obtain ⟨ad, e1, hx⟩ := Kd.at_int HRg.out a1 p q
        cases e1
        replace hx : w.cell? ⟨0, a1.toNat, none⟩ = some (.int .i64 (rd glens a1)) := by rw [add_at, Nat.zero_add] at hx; exact hx
        have p1 : decide (0 ≤ a1) = true := decide_eq_true p
        have q1 : decide (a1 < 13) = true := decide_eq_true q
        replace p := eq_true p
        replace q := eq_true q
        go_enter Tryd.func17, Tryd.ntmps17
        go_wp2
        repeat (go_quiet (fail); try go_wp2)
        go_ret
        exact ⟨by first | rfl | (simp; done) | (simp [*]; done), by repeat (first | exact Drawn0.refl _ | apply Drawn0.step)⟩
      · rw [if_neg q] at H; cases H
    · rw [if_neg p] at H; cases H

end Go.Proofs.YtnmifmjlcmgoeaaDoor.G
