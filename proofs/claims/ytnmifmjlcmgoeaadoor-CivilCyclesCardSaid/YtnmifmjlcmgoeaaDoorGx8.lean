/- Written by a program of this session for this seat: contracts of the functions that its laws reach, or the row of a law over its plain part. -/
import Derived.Test.YtnmifmjlcmgoeaaDoorGx0
import Derived.Test.YtnmifmjlcmgoeaaDoorGx2
import Derived.Test.YtnmifmjlcmgoeaaDoorGx3
import Derived.Test.YtnmifmjlcmgoeaaDoorGx4
import Derived.Test.YtnmifmjlcmgoeaaDoorGx5
import Derived.Test.YtnmifmjlcmgoeaaDoorGx6
import Derived.Test.YtnmifmjlcmgoeaaDoorGx7
namespace Go.Proofs.YtnmifmjlcmgoeaaDoor.G
open Go.RowKit Go.Proofs.YtnmifmjlcmgoeaaDoorW.PrintWords Go.Proofs.YtnmifmjlcmgoeaaDoorW.PrintLast Go.Proofs.YtnmifmjlcmgoeaaDoorW.PrintMore
attribute [local go_sem] max2_int min2_int max_two min_two max_three min_three max_four min_four   -- for this text's walks alone
set_option linter.unusedVariables false
set_option linter.unusedSimpArgs false

/-! ### zoneinfolaw04_awake: function 8 -/
def zoneinfolaw04_awake.f  : Option (Bool) := (civil_Date.f 11016).bind fun bt111 => ((civil_Date.f (-1)).bind fun bt114 => ((civil_Days.f 2000 3 1).bind fun t117 => (if t117 = 11017 then ((civil_Days.f 1970 1 1).bind fun t118 => (if t118 = 0 then ((civil_Days.f 1600 1 1).bind fun t119 => (if t119 = (-135140) then (if bt111.1 = 2000 then (if bt111.2.1 = 2 then (if bt111.2.2 = 29 then (if bt114.1 = 1969 then (if bt114.2.1 = 12 then (if bt114.2.2 = 31 then ((civil_Weekday.f 0).bind fun t120 => (if t120 = 4 then ((civil_Weekday.f (-4)).bind fun t121 => (if t121 = 0 then ((civil_IsLeap.f 0).bind fun t122 => (if t122 = true then ((civil_IsLeap.f 1900).bind fun t123 => (if t123 = true then (none) else ((civil_IsLeap.f 2000).bind fun t124 => (if t124 = true then ((civil_IsLeap.f (-4)).bind fun t125 => (if t125 = true then ((civil_MonthDays.f 2023 2).bind fun t126 => (if t126 = 28 then ((civil_MonthDays.f 2024 2).bind fun t127 => (if t127 = 29 then ((civil_YearDay.f 2024 12 31).bind fun t128 => (if t128 = 365 then ((civil_YearDay.f 2024 1 1).bind fun t129 => (some (t129 == 0))) else (none))) else (none))) else (none))) else (none))) else (none))))) else (none))) else (none))) else (none))) else (none)) else (none)) else (none)) else (none)) else (none)) else (none)) else (none))) else (none))) else (none))))
set_option maxHeartbeats 8000000 in
set_option maxRecDepth 100000 in
theorem zoneinfolaw04_awake.calls  (r : Bool) (w : World) (hrg : GL w) (h : zoneinfolaw04_awake.f  = some r) :
    Calls Tryd.prog 8 #[] w fun e w' => e = .returned (.bool r) ∧ Drawn0 w w' := by
  have HRg := Aside0.mk hrg
  clear hrg
  have H : ((civil_Date.f 11016).bind fun bt111 => ((civil_Date.f (-1)).bind fun bt114 => ((civil_Days.f 2000 3 1).bind fun t117 => (if t117 = 11017 then ((civil_Days.f 1970 1 1).bind fun t118 => (if t118 = 0 then ((civil_Days.f 1600 1 1).bind fun t119 => (if t119 = (-135140) then (if bt111.1 = 2000 then (if bt111.2.1 = 2 then (if bt111.2.2 = 29 then (if bt114.1 = 1969 then (if bt114.2.1 = 12 then (if bt114.2.2 = 31 then ((civil_Weekday.f 0).bind fun t120 => (if t120 = 4 then ((civil_Weekday.f (-4)).bind fun t121 => (if t121 = 0 then ((civil_IsLeap.f 0).bind fun t122 => (if t122 = true then ((civil_IsLeap.f 1900).bind fun t123 => (if t123 = true then (none) else ((civil_IsLeap.f 2000).bind fun t124 => (if t124 = true then ((civil_IsLeap.f (-4)).bind fun t125 => (if t125 = true then ((civil_MonthDays.f 2023 2).bind fun t126 => (if t126 = 28 then ((civil_MonthDays.f 2024 2).bind fun t127 => (if t127 = 29 then ((civil_YearDay.f 2024 12 31).bind fun t128 => (if t128 = 365 then ((civil_YearDay.f 2024 1 1).bind fun t129 => (some (t129 == 0))) else (none))) else (none))) else (none))) else (none))) else (none))))) else (none))) else (none))) else (none))) else (none)) else (none)) else (none)) else (none)) else (none)) else (none)) else (none))) else (none))) else (none))))) = some r := h
  clear h
  replace H := Option.bind_eq_some_iff.mp H
  obtain ⟨⟨t111, t112, t113⟩, A10, H⟩ := H
  replace H : ((civil_Date.f (-1)).bind fun bt114 => ((civil_Days.f 2000 3 1).bind fun t117 => (if t117 = 11017 then ((civil_Days.f 1970 1 1).bind fun t118 => (if t118 = 0 then ((civil_Days.f 1600 1 1).bind fun t119 => (if t119 = (-135140) then (if t111 = 2000 then (if t112 = 2 then (if t113 = 29 then (if bt114.1 = 1969 then (if bt114.2.1 = 12 then (if bt114.2.2 = 31 then ((civil_Weekday.f 0).bind fun t120 => (if t120 = 4 then ((civil_Weekday.f (-4)).bind fun t121 => (if t121 = 0 then ((civil_IsLeap.f 0).bind fun t122 => (if t122 = true then ((civil_IsLeap.f 1900).bind fun t123 => (if t123 = true then (none) else ((civil_IsLeap.f 2000).bind fun t124 => (if t124 = true then ((civil_IsLeap.f (-4)).bind fun t125 => (if t125 = true then ((civil_MonthDays.f 2023 2).bind fun t126 => (if t126 = 28 then ((civil_MonthDays.f 2024 2).bind fun t127 => (if t127 = 29 then ((civil_YearDay.f 2024 12 31).bind fun t128 => (if t128 = 365 then ((civil_YearDay.f 2024 1 1).bind fun t129 => (some (t129 == 0))) else (none))) else (none))) else (none))) else (none))) else (none))))) else (none))) else (none))) else (none))) else (none)) else (none)) else (none)) else (none)) else (none)) else (none)) else (none))) else (none))) else (none)))) = some r := H
  have A1 := Aside0.mk A10
  clear A10
  replace H := Option.bind_eq_some_iff.mp H
  obtain ⟨⟨t114, t115, t116⟩, A20, H⟩ := H
  replace H : ((civil_Days.f 2000 3 1).bind fun t117 => (if t117 = 11017 then ((civil_Days.f 1970 1 1).bind fun t118 => (if t118 = 0 then ((civil_Days.f 1600 1 1).bind fun t119 => (if t119 = (-135140) then (if t111 = 2000 then (if t112 = 2 then (if t113 = 29 then (if t114 = 1969 then (if t115 = 12 then (if t116 = 31 then ((civil_Weekday.f 0).bind fun t120 => (if t120 = 4 then ((civil_Weekday.f (-4)).bind fun t121 => (if t121 = 0 then ((civil_IsLeap.f 0).bind fun t122 => (if t122 = true then ((civil_IsLeap.f 1900).bind fun t123 => (if t123 = true then (none) else ((civil_IsLeap.f 2000).bind fun t124 => (if t124 = true then ((civil_IsLeap.f (-4)).bind fun t125 => (if t125 = true then ((civil_MonthDays.f 2023 2).bind fun t126 => (if t126 = 28 then ((civil_MonthDays.f 2024 2).bind fun t127 => (if t127 = 29 then ((civil_YearDay.f 2024 12 31).bind fun t128 => (if t128 = 365 then ((civil_YearDay.f 2024 1 1).bind fun t129 => (some (t129 == 0))) else (none))) else (none))) else (none))) else (none))) else (none))))) else (none))) else (none))) else (none))) else (none)) else (none)) else (none)) else (none)) else (none)) else (none)) else (none))) else (none))) else (none))) = some r := H
  have A2 := Aside0.mk A20
  clear A20
  replace H := Option.bind_eq_some_iff.mp H
  obtain ⟨t117, A30, H⟩ := H
  replace H : (if t117 = 11017 then ((civil_Days.f 1970 1 1).bind fun t118 => (if t118 = 0 then ((civil_Days.f 1600 1 1).bind fun t119 => (if t119 = (-135140) then (if t111 = 2000 then (if t112 = 2 then (if t113 = 29 then (if t114 = 1969 then (if t115 = 12 then (if t116 = 31 then ((civil_Weekday.f 0).bind fun t120 => (if t120 = 4 then ((civil_Weekday.f (-4)).bind fun t121 => (if t121 = 0 then ((civil_IsLeap.f 0).bind fun t122 => (if t122 = true then ((civil_IsLeap.f 1900).bind fun t123 => (if t123 = true then (none) else ((civil_IsLeap.f 2000).bind fun t124 => (if t124 = true then ((civil_IsLeap.f (-4)).bind fun t125 => (if t125 = true then ((civil_MonthDays.f 2023 2).bind fun t126 => (if t126 = 28 then ((civil_MonthDays.f 2024 2).bind fun t127 => (if t127 = 29 then ((civil_YearDay.f 2024 12 31).bind fun t128 => (if t128 = 365 then ((civil_YearDay.f 2024 1 1).bind fun t129 => (some (t129 == 0))) else (none))) else (none))) else (none))) else (none))) else (none))))) else (none))) else (none))) else (none))) else (none)) else (none)) else (none)) else (none)) else (none)) else (none)) else (none))) else (none))) else (none)) = some r := H
  have A3 := Aside0.mk A30
  clear A30
  by_cases c4 : t117 = 11017
  · rw [if_pos c4] at H
    have c4b0 : (t117 == 11017) = true := beq_iff_eq.mpr c4
    have c4b1 : (t117 != 11017) = false := bne_eq_false_iff_eq.mpr c4
    clear c4
    replace H := Option.bind_eq_some_iff.mp H
    obtain ⟨t118, A50, H⟩ := H
    replace H : (if t118 = 0 then ((civil_Days.f 1600 1 1).bind fun t119 => (if t119 = (-135140) then (if t111 = 2000 then (if t112 = 2 then (if t113 = 29 then (if t114 = 1969 then (if t115 = 12 then (if t116 = 31 then ((civil_Weekday.f 0).bind fun t120 => (if t120 = 4 then ((civil_Weekday.f (-4)).bind fun t121 => (if t121 = 0 then ((civil_IsLeap.f 0).bind fun t122 => (if t122 = true then ((civil_IsLeap.f 1900).bind fun t123 => (if t123 = true then (none) else ((civil_IsLeap.f 2000).bind fun t124 => (if t124 = true then ((civil_IsLeap.f (-4)).bind fun t125 => (if t125 = true then ((civil_MonthDays.f 2023 2).bind fun t126 => (if t126 = 28 then ((civil_MonthDays.f 2024 2).bind fun t127 => (if t127 = 29 then ((civil_YearDay.f 2024 12 31).bind fun t128 => (if t128 = 365 then ((civil_YearDay.f 2024 1 1).bind fun t129 => (some (t129 == 0))) else (none))) else (none))) else (none))) else (none))) else (none))))) else (none))) else (none))) else (none))) else (none)) else (none)) else (none)) else (none)) else (none)) else (none)) else (none))) else (none)) = some r := H
    have A5 := Aside0.mk A50
    clear A50
    by_cases c6 : t118 = 0
    · rw [if_pos c6] at H
      have c6b0 : (t118 == 0) = true := beq_iff_eq.mpr c6
      have c6b1 : (t118 != 0) = false := bne_eq_false_iff_eq.mpr c6
      clear c6
      replace H := Option.bind_eq_some_iff.mp H
      obtain ⟨t119, A70, H⟩ := H
      replace H : (if t119 = (-135140) then (if t111 = 2000 then (if t112 = 2 then (if t113 = 29 then (if t114 = 1969 then (if t115 = 12 then (if t116 = 31 then ((civil_Weekday.f 0).bind fun t120 => (if t120 = 4 then ((civil_Weekday.f (-4)).bind fun t121 => (if t121 = 0 then ((civil_IsLeap.f 0).bind fun t122 => (if t122 = true then ((civil_IsLeap.f 1900).bind fun t123 => (if t123 = true then (none) else ((civil_IsLeap.f 2000).bind fun t124 => (if t124 = true then ((civil_IsLeap.f (-4)).bind fun t125 => (if t125 = true then ((civil_MonthDays.f 2023 2).bind fun t126 => (if t126 = 28 then ((civil_MonthDays.f 2024 2).bind fun t127 => (if t127 = 29 then ((civil_YearDay.f 2024 12 31).bind fun t128 => (if t128 = 365 then ((civil_YearDay.f 2024 1 1).bind fun t129 => (some (t129 == 0))) else (none))) else (none))) else (none))) else (none))) else (none))))) else (none))) else (none))) else (none))) else (none)) else (none)) else (none)) else (none)) else (none)) else (none)) else (none)) = some r := H
      have A7 := Aside0.mk A70
      clear A70
      by_cases c8 : t119 = (-135140)
      · rw [if_pos c8] at H
        have c8b0 : (t119 == (-135140)) = true := beq_iff_eq.mpr c8
        have c8b1 : (t119 != (-135140)) = false := bne_eq_false_iff_eq.mpr c8
        clear c8
        by_cases c9 : t111 = 2000
        · rw [if_pos c9] at H
          have c9b0 : (t111 == 2000) = true := beq_iff_eq.mpr c9
          have c9b1 : (t111 != 2000) = false := bne_eq_false_iff_eq.mpr c9
          clear c9
          by_cases c10 : t112 = 2
          · rw [if_pos c10] at H
            have c10b0 : (t112 == 2) = true := beq_iff_eq.mpr c10
            have c10b1 : (t112 != 2) = false := bne_eq_false_iff_eq.mpr c10
            clear c10
            by_cases c11 : t113 = 29
            · rw [if_pos c11] at H
              have c11b0 : (t113 == 29) = true := beq_iff_eq.mpr c11
              have c11b1 : (t113 != 29) = false := bne_eq_false_iff_eq.mpr c11
              clear c11
              by_cases c12 : t114 = 1969
              · rw [if_pos c12] at H
                have c12b0 : (t114 == 1969) = true := beq_iff_eq.mpr c12
                have c12b1 : (t114 != 1969) = false := bne_eq_false_iff_eq.mpr c12
                clear c12
                by_cases c13 : t115 = 12
                · rw [if_pos c13] at H
                  have c13b0 : (t115 == 12) = true := beq_iff_eq.mpr c13
                  have c13b1 : (t115 != 12) = false := bne_eq_false_iff_eq.mpr c13
                  clear c13
                  by_cases c14 : t116 = 31
                  · rw [if_pos c14] at H
                    have c14b0 : (t116 == 31) = true := beq_iff_eq.mpr c14
                    have c14b1 : (t116 != 31) = false := bne_eq_false_iff_eq.mpr c14
                    clear c14
                    replace H := Option.bind_eq_some_iff.mp H
                    obtain ⟨t120, A150, H⟩ := H
                    replace H : (if t120 = 4 then ((civil_Weekday.f (-4)).bind fun t121 => (if t121 = 0 then ((civil_IsLeap.f 0).bind fun t122 => (if t122 = true then ((civil_IsLeap.f 1900).bind fun t123 => (if t123 = true then (none) else ((civil_IsLeap.f 2000).bind fun t124 => (if t124 = true then ((civil_IsLeap.f (-4)).bind fun t125 => (if t125 = true then ((civil_MonthDays.f 2023 2).bind fun t126 => (if t126 = 28 then ((civil_MonthDays.f 2024 2).bind fun t127 => (if t127 = 29 then ((civil_YearDay.f 2024 12 31).bind fun t128 => (if t128 = 365 then ((civil_YearDay.f 2024 1 1).bind fun t129 => (some (t129 == 0))) else (none))) else (none))) else (none))) else (none))) else (none))))) else (none))) else (none))) else (none)) = some r := H
                    have A15 := Aside0.mk A150
                    clear A150
                    by_cases c16 : t120 = 4
                    · rw [if_pos c16] at H
                      have c16b0 : (t120 == 4) = true := beq_iff_eq.mpr c16
                      have c16b1 : (t120 != 4) = false := bne_eq_false_iff_eq.mpr c16
                      clear c16
                      replace H := Option.bind_eq_some_iff.mp H
                      obtain ⟨t121, A170, H⟩ := H
                      replace H : (if t121 = 0 then ((civil_IsLeap.f 0).bind fun t122 => (if t122 = true then ((civil_IsLeap.f 1900).bind fun t123 => (if t123 = true then (none) else ((civil_IsLeap.f 2000).bind fun t124 => (if t124 = true then ((civil_IsLeap.f (-4)).bind fun t125 => (if t125 = true then ((civil_MonthDays.f 2023 2).bind fun t126 => (if t126 = 28 then ((civil_MonthDays.f 2024 2).bind fun t127 => (if t127 = 29 then ((civil_YearDay.f 2024 12 31).bind fun t128 => (if t128 = 365 then ((civil_YearDay.f 2024 1 1).bind fun t129 => (some (t129 == 0))) else (none))) else (none))) else (none))) else (none))) else (none))))) else (none))) else (none)) = some r := H
                      have A17 := Aside0.mk A170
                      clear A170
                      by_cases c18 : t121 = 0
                      · rw [if_pos c18] at H
                        have c18b0 : (t121 == 0) = true := beq_iff_eq.mpr c18
                        have c18b1 : (t121 != 0) = false := bne_eq_false_iff_eq.mpr c18
                        clear c18
                        replace H := Option.bind_eq_some_iff.mp H
                        obtain ⟨t122, A190, H⟩ := H
                        replace H : (if t122 = true then ((civil_IsLeap.f 1900).bind fun t123 => (if t123 = true then (none) else ((civil_IsLeap.f 2000).bind fun t124 => (if t124 = true then ((civil_IsLeap.f (-4)).bind fun t125 => (if t125 = true then ((civil_MonthDays.f 2023 2).bind fun t126 => (if t126 = 28 then ((civil_MonthDays.f 2024 2).bind fun t127 => (if t127 = 29 then ((civil_YearDay.f 2024 12 31).bind fun t128 => (if t128 = 365 then ((civil_YearDay.f 2024 1 1).bind fun t129 => (some (t129 == 0))) else (none))) else (none))) else (none))) else (none))) else (none))))) else (none)) = some r := H
                        have A19 := Aside0.mk A190
                        clear A190
                        by_cases c20 : t122 = true
                        · subst c20
                          have H1 : ((civil_IsLeap.f 1900).bind fun t123 => (if t123 = true then (none) else ((civil_IsLeap.f 2000).bind fun t124 => (if t124 = true then ((civil_IsLeap.f (-4)).bind fun t125 => (if t125 = true then ((civil_MonthDays.f 2023 2).bind fun t126 => (if t126 = 28 then ((civil_MonthDays.f 2024 2).bind fun t127 => (if t127 = 29 then ((civil_YearDay.f 2024 12 31).bind fun t128 => (if t128 = 365 then ((civil_YearDay.f 2024 1 1).bind fun t129 => (some (t129 == 0))) else (none))) else (none))) else (none))) else (none))) else (none))))) = some r := by rw [if_pos rfl] at H; exact H
                          clear H
                          have H := H1
                          clear H1
                          replace H := Option.bind_eq_some_iff.mp H
                          obtain ⟨t123, A210, H⟩ := H
                          replace H : (if t123 = true then (none) else ((civil_IsLeap.f 2000).bind fun t124 => (if t124 = true then ((civil_IsLeap.f (-4)).bind fun t125 => (if t125 = true then ((civil_MonthDays.f 2023 2).bind fun t126 => (if t126 = 28 then ((civil_MonthDays.f 2024 2).bind fun t127 => (if t127 = 29 then ((civil_YearDay.f 2024 12 31).bind fun t128 => (if t128 = 365 then ((civil_YearDay.f 2024 1 1).bind fun t129 => (some (t129 == 0))) else (none))) else (none))) else (none))) else (none))) else (none)))) = some r := H
                          have A21 := Aside0.mk A210
                          clear A210
                          by_cases c22 : t123 = true
                          · subst c22
                            have H1 : (none) = some r := by rw [if_pos rfl] at H; exact H
                            clear H
                            have H := H1
                            clear H1
                            exact absurd H (by simp)
                          · replace c22 := Bool.eq_false_iff.mpr c22
                            subst c22
                            have H1 : ((civil_IsLeap.f 2000).bind fun t124 => (if t124 = true then ((civil_IsLeap.f (-4)).bind fun t125 => (if t125 = true then ((civil_MonthDays.f 2023 2).bind fun t126 => (if t126 = 28 then ((civil_MonthDays.f 2024 2).bind fun t127 => (if t127 = 29 then ((civil_YearDay.f 2024 12 31).bind fun t128 => (if t128 = 365 then ((civil_YearDay.f 2024 1 1).bind fun t129 => (some (t129 == 0))) else (none))) else (none))) else (none))) else (none))) else (none))) = some r := by rw [if_neg (show ¬ (false = true) by decide)] at H; exact H
                            clear H
                            have H := H1
                            clear H1
                            replace H := Option.bind_eq_some_iff.mp H
                            obtain ⟨t124, A230, H⟩ := H
                            replace H : (if t124 = true then ((civil_IsLeap.f (-4)).bind fun t125 => (if t125 = true then ((civil_MonthDays.f 2023 2).bind fun t126 => (if t126 = 28 then ((civil_MonthDays.f 2024 2).bind fun t127 => (if t127 = 29 then ((civil_YearDay.f 2024 12 31).bind fun t128 => (if t128 = 365 then ((civil_YearDay.f 2024 1 1).bind fun t129 => (some (t129 == 0))) else (none))) else (none))) else (none))) else (none))) else (none)) = some r := H
                            have A23 := Aside0.mk A230
                            clear A230
                            by_cases c24 : t124 = true
                            · subst c24
                              have H1 : ((civil_IsLeap.f (-4)).bind fun t125 => (if t125 = true then ((civil_MonthDays.f 2023 2).bind fun t126 => (if t126 = 28 then ((civil_MonthDays.f 2024 2).bind fun t127 => (if t127 = 29 then ((civil_YearDay.f 2024 12 31).bind fun t128 => (if t128 = 365 then ((civil_YearDay.f 2024 1 1).bind fun t129 => (some (t129 == 0))) else (none))) else (none))) else (none))) else (none))) = some r := by rw [if_pos rfl] at H; exact H
                              clear H
                              have H := H1
                              clear H1
                              replace H := Option.bind_eq_some_iff.mp H
                              obtain ⟨t125, A250, H⟩ := H
                              replace H : (if t125 = true then ((civil_MonthDays.f 2023 2).bind fun t126 => (if t126 = 28 then ((civil_MonthDays.f 2024 2).bind fun t127 => (if t127 = 29 then ((civil_YearDay.f 2024 12 31).bind fun t128 => (if t128 = 365 then ((civil_YearDay.f 2024 1 1).bind fun t129 => (some (t129 == 0))) else (none))) else (none))) else (none))) else (none)) = some r := H
                              have A25 := Aside0.mk A250
                              clear A250
                              by_cases c26 : t125 = true
                              · subst c26
                                have H1 : ((civil_MonthDays.f 2023 2).bind fun t126 => (if t126 = 28 then ((civil_MonthDays.f 2024 2).bind fun t127 => (if t127 = 29 then ((civil_YearDay.f 2024 12 31).bind fun t128 => (if t128 = 365 then ((civil_YearDay.f 2024 1 1).bind fun t129 => (some (t129 == 0))) else (none))) else (none))) else (none))) = some r := by rw [if_pos rfl] at H; exact H
                                clear H
                                have H := H1
                                clear H1
                                replace H := Option.bind_eq_some_iff.mp H
                                obtain ⟨t126, A270, H⟩ := H
                                replace H : (if t126 = 28 then ((civil_MonthDays.f 2024 2).bind fun t127 => (if t127 = 29 then ((civil_YearDay.f 2024 12 31).bind fun t128 => (if t128 = 365 then ((civil_YearDay.f 2024 1 1).bind fun t129 => (some (t129 == 0))) else (none))) else (none))) else (none)) = some r := H
                                have A27 := Aside0.mk A270
                                clear A270
                                by_cases c28 : t126 = 28
                                · rw [if_pos c28] at H
                                  have c28b0 : (t126 == 28) = true := beq_iff_eq.mpr c28
                                  have c28b1 : (t126 != 28) = false := bne_eq_false_iff_eq.mpr c28
                                  clear c28
                                  replace H := Option.bind_eq_some_iff.mp H
                                  obtain ⟨t127, A290, H⟩ := H
                                  replace H : (if t127 = 29 then ((civil_YearDay.f 2024 12 31).bind fun t128 => (if t128 = 365 then ((civil_YearDay.f 2024 1 1).bind fun t129 => (some (t129 == 0))) else (none))) else (none)) = some r := H
                                  have A29 := Aside0.mk A290
                                  clear A290
                                  by_cases c30 : t127 = 29
                                  · rw [if_pos c30] at H
                                    have c30b0 : (t127 == 29) = true := beq_iff_eq.mpr c30
                                    have c30b1 : (t127 != 29) = false := bne_eq_false_iff_eq.mpr c30
                                    clear c30
                                    replace H := Option.bind_eq_some_iff.mp H
                                    obtain ⟨t128, A310, H⟩ := H
                                    replace H : (if t128 = 365 then ((civil_YearDay.f 2024 1 1).bind fun t129 => (some (t129 == 0))) else (none)) = some r := H
                                    have A31 := Aside0.mk A310
                                    clear A310
                                    by_cases c32 : t128 = 365
                                    · rw [if_pos c32] at H
                                      have c32b0 : (t128 == 365) = true := beq_iff_eq.mpr c32
                                      have c32b1 : (t128 != 365) = false := bne_eq_false_iff_eq.mpr c32
                                      clear c32
                                      replace H := Option.bind_eq_some_iff.mp H
                                      obtain ⟨t129, A330, H⟩ := H
                                      replace H : (some (t129 == 0)) = some r := H
                                      have A33 := Aside0.mk A330
                                      clear A330
                                      obtain rfl := Option.some.inj H
                                      go_enter Tryd.func8, Tryd.ntmps8
                                      go_wp2_with (first | ((with_reducible refine gate_callee (f := 10) rfl ?_); refine goesL_ (some 8) rfl rfl Tryd.func10 (by kernel_rfl) rfl #[.int .i64 11016] rfl (by (try simp only [List.map_toArray, List.map_cons, List.map_nil]); first | done | rfl | (simp only [List.length_drop, List.length_take]; rfl)) ?_; (with_reducible refine (civil_Date.calls 11016 t111 t112 t113 _ A1.out).mono ?_); rintro e w' ⟨rfl, ⟨nd, rfl⟩⟩; refine ⟨_, rfl, ?_⟩) | ((with_reducible refine gate_callee (f := 10) rfl ?_); refine goesL_ (some 13) rfl rfl Tryd.func10 (by kernel_rfl) rfl #[.int .i64 (-1)] rfl (by (try simp only [List.map_toArray, List.map_cons, List.map_nil]); first | done | rfl | (simp only [List.length_drop, List.length_take]; rfl)) ?_; (with_reducible refine (civil_Date.calls (-1) t114 t115 t116 _ A2.out).mono ?_); rintro e w' ⟨rfl, ⟨nd, rfl⟩⟩; refine ⟨_, rfl, ?_⟩) | (go_at_call 19; (with_reducible refine (civil_Days.calls 2000 3 1 t117 _ A3.out).mono ?_); rintro e w' ⟨rfl, ⟨nd, rfl⟩⟩) | (go_at_call 19; (with_reducible refine (civil_Days.calls 1970 1 1 t118 _ A5.out).mono ?_); rintro e w' ⟨rfl, ⟨nd, rfl⟩⟩) | (go_at_call 19; (with_reducible refine (civil_Days.calls 1600 1 1 t119 _ A7.out).mono ?_); rintro e w' ⟨rfl, ⟨nd, rfl⟩⟩) | (go_at_call 12; (with_reducible refine (civil_Weekday.calls 0 t120 _ A15.out).mono ?_); rintro e w' ⟨rfl, ⟨nd, rfl⟩⟩) | (go_at_call 12; (with_reducible refine (civil_Weekday.calls (-4) t121 _ A17.out).mono ?_); rintro e w' ⟨rfl, ⟨nd, rfl⟩⟩) | (go_at_call 15; (with_reducible refine (civil_IsLeap.calls 0 true _ A19.out).mono ?_); rintro e w' ⟨rfl, ⟨nd, rfl⟩⟩) | (go_at_call 15; (with_reducible refine (civil_IsLeap.calls 1900 false _ A21.out).mono ?_); rintro e w' ⟨rfl, ⟨nd, rfl⟩⟩) | (go_at_call 15; (with_reducible refine (civil_IsLeap.calls 2000 true _ A23.out).mono ?_); rintro e w' ⟨rfl, ⟨nd, rfl⟩⟩) | (go_at_call 15; (with_reducible refine (civil_IsLeap.calls (-4) true _ A25.out).mono ?_); rintro e w' ⟨rfl, ⟨nd, rfl⟩⟩) | (go_at_call 17; (with_reducible refine (civil_MonthDays.calls 2023 2 t126 _ ?side1 A27.out).mono ?_); (case side1 => repeat (first | exact HRg.out | (with_reducible refine Kd.C_alloc ?_ _) | (with_reducible refine Kd.C_drewN ?_ _) | (with_reducible refine Kd.C_drew ?_))); rintro e w' ⟨rfl, ⟨nd, rfl⟩⟩) | (go_at_call 17; (with_reducible refine (civil_MonthDays.calls 2024 2 t127 _ ?side1 A29.out).mono ?_); (case side1 => repeat (first | exact HRg.out | (with_reducible refine Kd.C_alloc ?_ _) | (with_reducible refine Kd.C_drewN ?_ _) | (with_reducible refine Kd.C_drew ?_))); rintro e w' ⟨rfl, ⟨nd, rfl⟩⟩) | (go_at_call 21; (with_reducible refine (civil_YearDay.calls 2024 12 31 t128 _ A31.out).mono ?_); rintro e w' ⟨rfl, ⟨nd, rfl⟩⟩) | (go_at_call 21; (with_reducible refine (civil_YearDay.calls 2024 1 1 t129 _ A33.out).mono ?_); rintro e w' ⟨rfl, ⟨nd, rfl⟩⟩))
                                      go_ret
                                      exact ⟨by first | rfl | (simp; done) | (simp [*]; done), by repeat (first | exact Drawn0.refl _ | apply Drawn0.step)⟩
                                    · rw [if_neg c32] at H
                                      exact absurd H (by simp)
                                  · rw [if_neg c30] at H
                                    exact absurd H (by simp)
                                · rw [if_neg c28] at H
                                  exact absurd H (by simp)
                              · replace c26 := Bool.eq_false_iff.mpr c26
                                subst c26
                                have H1 : (none) = some r := by rw [if_neg (show ¬ (false = true) by decide)] at H; exact H
                                clear H
                                have H := H1
                                clear H1
                                exact absurd H (by simp)
                            · replace c24 := Bool.eq_false_iff.mpr c24
                              subst c24
                              have H1 : (none) = some r := by rw [if_neg (show ¬ (false = true) by decide)] at H; exact H
                              clear H
                              have H := H1
                              clear H1
                              exact absurd H (by simp)
                        · replace c20 := Bool.eq_false_iff.mpr c20
                          subst c20
                          have H1 : (none) = some r := by rw [if_neg (show ¬ (false = true) by decide)] at H; exact H
                          clear H
                          have H := H1
                          clear H1
                          exact absurd H (by simp)
                      · rw [if_neg c18] at H
                        exact absurd H (by simp)
                    · rw [if_neg c16] at H
                      exact absurd H (by simp)
                  · rw [if_neg c14] at H
                    exact absurd H (by simp)
                · rw [if_neg c13] at H
                  exact absurd H (by simp)
              · rw [if_neg c12] at H
                exact absurd H (by simp)
            · rw [if_neg c11] at H
              exact absurd H (by simp)
          · rw [if_neg c10] at H
            exact absurd H (by simp)
        · rw [if_neg c9] at H
          exact absurd H (by simp)
      · rw [if_neg c8] at H
        exact absurd H (by simp)
    · rw [if_neg c6] at H
      exact absurd H (by simp)
  · rw [if_neg c4] at H
    exact absurd H (by simp)

end Go.Proofs.YtnmifmjlcmgoeaaDoor.G
