/- Written by a program of this session for this seat: contracts of the functions that its laws reach, or the row of a law over its plain part. -/
import Derived.Test.YtnmifmjlcmgoeaaDoorGx0
import Derived.Test.YtnmifmjlcmgoeaaDoorGx2
import Derived.Test.YtnmifmjlcmgoeaaDoorGx3
import Derived.Test.YtnmifmjlcmgoeaaDoorGx4
import Derived.Test.YtnmifmjlcmgoeaaDoorGx5
import Derived.Test.YtnmifmjlcmgoeaaDoorGx6
import Derived.Test.YtnmifmjlcmgoeaaDoorGx7
import Derived.Test.YtnmifmjlcmgoeaaDoorGx8
import Derived.Test.YtnmifmjlcmgoeaaDoorGx9
import Derived.Test.YtnmifmjlcmgoeaaDoorGx10
import Derived.Test.YtnmifmjlcmgoeaaDoorGx11
import Derived.Test.YtnmifmjlcmgoeaaDoorGx13
import Derived.Test.YtnmifmjlcmgoeaaDoorGx14
import Derived.Test.YtnmifmjlcmgoeaaDoorGx15
import Derived.Test.YtnmifmjlcmgoeaaDoorGx16
import Derived.Test.YtnmifmjlcmgoeaaDoorGx17
namespace Go.Proofs.YtnmifmjlcmgoeaaDoor.G
open Go.RowKit Go.Proofs.YtnmifmjlcmgoeaaDoorW.PrintWords Go.Proofs.YtnmifmjlcmgoeaaDoorW.PrintLast Go.Proofs.YtnmifmjlcmgoeaaDoorW.PrintMore
attribute [local go_sem] max2_int min2_int max_two min_two max_three min_three max_four min_four   -- for this text's walks alone
set_option linter.unusedVariables false
set_option linter.unusedSimpArgs false

/-! ### zoneinfolaw04_CivilMatchesReference: function 3 -/
def zoneinfolaw04_CivilMatchesReference.j0 : Nat → Int → Int → Int → Option (Bool)
  | 0, _, _, _ => none
  | k + 1, x0, x1, x2 => (zoneinforef04_Valid.f k x0 x1 x2).bind fun t152 => (if t152 = true then ((civil_IsLeap.f x0).bind fun t153 => ((zoneinforef04_IsLeap.f x0).bind fun t154 => (if (t153 == t154) = true then ((civil_MonthDays.f x0 x1).bind fun t155 => ((zoneinforef04_MonthDays.f k x0 x1).bind fun t156 => (if t155 = t156 then ((civil_Days.f x0 x1 x2).bind fun t157 => ((zoneinforef04_Days.f k x0 x1 x2).bind fun t158 => (if t157 = t158 then ((civil_YearDay.f x0 x1 x2).bind fun t159 => ((zoneinforef04_YearDay.f k x0 x1 x2).bind fun t160 => (some (t159 == t160)))) else (none)))) else (none)))) else (none)))) else (some true))
def zoneinfolaw04_CivilMatchesReference.f (k : Nat) (a0 : Int) (a1 : Int) (a2 : Int) (a3 : Int) : Option (Bool) := (zoneinfolaw04_awake.f).bind fun t142 => (if t142 = true then ((zoneinforef04_InRange.f k a3).bind fun t143 => (if t143 = true then ((civil_Date.f a3).bind fun bt144 => ((zoneinforef04_Date.f k a3).bind fun bt147 => (if bt144.1 = bt147.1 then (if bt144.2.1 = bt147.2.1 then (if bt144.2.2 = bt147.2.2 then ((civil_Weekday.f a3).bind fun t150 => ((zoneinforef04_Weekday.f a3).bind fun t151 => (if t150 = t151 then (zoneinfolaw04_CivilMatchesReference.j0 k a0 a1 a2) else (none)))) else (none)) else (none)) else (none)))) else (zoneinfolaw04_CivilMatchesReference.j0 k a0 a1 a2))) else (none))
theorem zoneinfolaw04_CivilMatchesReference.mono_l : ∀ k, (∀ y0 y1 y2, LeO (zoneinfolaw04_CivilMatchesReference.j0 k y0 y1 y2) (zoneinfolaw04_CivilMatchesReference.j0 (k + 1) y0 y1 y2))
  | 0 => fun _ _ _ r h => by simp [zoneinfolaw04_CivilMatchesReference.j0] at h
  | k + 1 => by
    have ih0 := zoneinfolaw04_CivilMatchesReference.mono_l k
    · intro y0 y1 y2
      unfold zoneinfolaw04_CivilMatchesReference.j0
      repeat' first
      | (with_reducible exact ih0 _ _ _)
      | (with_reducible exact zoneinforef04_Date.mono _ _)
      | (with_reducible exact zoneinforef04_Days.mono _ _ _ _)
      | (with_reducible exact zoneinforef04_InRange.mono _ _)
      | (with_reducible exact zoneinforef04_MonthDays.mono _ _ _)
      | (with_reducible exact zoneinforef04_Valid.mono _ _ _ _)
      | (with_reducible exact zoneinforef04_YearDay.mono _ _ _ _)
      | (with_reducible exact LeO.refl _)
      | (with_reducible exact LeO.none _)
      | (with_reducible refine LeO.ite ?_ ?_)
      | (with_reducible refine LeO.bind ?_ (fun _ => ?_))
      | exact ih0 _ _ _
      | exact zoneinforef04_Date.mono _ _
      | exact zoneinforef04_Days.mono _ _ _ _
      | exact zoneinforef04_InRange.mono _ _
      | exact zoneinforef04_MonthDays.mono _ _ _
      | exact zoneinforef04_Valid.mono _ _ _ _
      | exact zoneinforef04_YearDay.mono _ _ _ _
      | exact LeO.none _
      | refine LeO.ite ?_ ?_
      | refine LeO.bind ?_ (fun _ => ?_)
theorem zoneinfolaw04_CivilMatchesReference.mono : ∀ a0 a1 a2 a3 k, LeO (zoneinfolaw04_CivilMatchesReference.f k a0 a1 a2 a3) (zoneinfolaw04_CivilMatchesReference.f (k + 1) a0 a1 a2 a3) := by
  intro a0 a1 a2 a3 k
  have ih0 := zoneinfolaw04_CivilMatchesReference.mono_l k
  unfold zoneinfolaw04_CivilMatchesReference.f
  repeat' first
      | (with_reducible exact ih0 _ _ _)
      | (with_reducible exact zoneinforef04_Date.mono _ _)
      | (with_reducible exact zoneinforef04_Days.mono _ _ _ _)
      | (with_reducible exact zoneinforef04_InRange.mono _ _)
      | (with_reducible exact zoneinforef04_MonthDays.mono _ _ _)
      | (with_reducible exact zoneinforef04_Valid.mono _ _ _ _)
      | (with_reducible exact zoneinforef04_YearDay.mono _ _ _ _)
      | (with_reducible exact LeO.refl _)
      | (with_reducible exact LeO.none _)
      | (with_reducible refine LeO.ite ?_ ?_)
      | (with_reducible refine LeO.bind ?_ (fun _ => ?_))
      | exact ih0 _ _ _
      | exact zoneinforef04_Date.mono _ _
      | exact zoneinforef04_Days.mono _ _ _ _
      | exact zoneinforef04_InRange.mono _ _
      | exact zoneinforef04_MonthDays.mono _ _ _
      | exact zoneinforef04_Valid.mono _ _ _ _
      | exact zoneinforef04_YearDay.mono _ _ _ _
      | exact LeO.none _
      | refine LeO.ite ?_ ?_
      | refine LeO.bind ?_ (fun _ => ?_)
set_option maxHeartbeats 8000000 in
set_option maxRecDepth 100000 in
theorem zoneinfolaw04_CivilMatchesReference.calls (k : Nat) (a0 : Int) (a1 : Int) (a2 : Int) (a3 : Int) (r : Bool) (w : World) (hrg : GL w) (h : zoneinfolaw04_CivilMatchesReference.f k a0 a1 a2 a3 = some r) :
    Calls Tryd.prog 3 #[.int .i64 a0, .int .i64 a1, .int .i64 a2, .int .i64 a3] w fun e w' => e = .returned (.bool r) ∧ Drawn0 w w' := by
  have HRg := Aside0.mk hrg
  clear hrg
  have H : ((zoneinfolaw04_awake.f).bind fun t142 => (if t142 = true then ((zoneinforef04_InRange.f k a3).bind fun t143 => (if t143 = true then ((civil_Date.f a3).bind fun bt144 => ((zoneinforef04_Date.f k a3).bind fun bt147 => (if bt144.1 = bt147.1 then (if bt144.2.1 = bt147.2.1 then (if bt144.2.2 = bt147.2.2 then ((civil_Weekday.f a3).bind fun t150 => ((zoneinforef04_Weekday.f a3).bind fun t151 => (if t150 = t151 then (zoneinfolaw04_CivilMatchesReference.j0 k a0 a1 a2) else (none)))) else (none)) else (none)) else (none)))) else (zoneinfolaw04_CivilMatchesReference.j0 k a0 a1 a2))) else (none))) = some r := h
  clear h
  replace H := Option.bind_eq_some_iff.mp H
  obtain ⟨t142, A50, H⟩ := H
  replace H : (if t142 = true then ((zoneinforef04_InRange.f k a3).bind fun t143 => (if t143 = true then ((civil_Date.f a3).bind fun bt144 => ((zoneinforef04_Date.f k a3).bind fun bt147 => (if bt144.1 = bt147.1 then (if bt144.2.1 = bt147.2.1 then (if bt144.2.2 = bt147.2.2 then ((civil_Weekday.f a3).bind fun t150 => ((zoneinforef04_Weekday.f a3).bind fun t151 => (if t150 = t151 then (zoneinfolaw04_CivilMatchesReference.j0 k a0 a1 a2) else (none)))) else (none)) else (none)) else (none)))) else (zoneinfolaw04_CivilMatchesReference.j0 k a0 a1 a2))) else (none)) = some r := H
  have A5 := Aside0.mk A50
  clear A50
  by_cases c6 : t142 = true
  · subst c6
    have H1 : ((zoneinforef04_InRange.f k a3).bind fun t143 => (if t143 = true then ((civil_Date.f a3).bind fun bt144 => ((zoneinforef04_Date.f k a3).bind fun bt147 => (if bt144.1 = bt147.1 then (if bt144.2.1 = bt147.2.1 then (if bt144.2.2 = bt147.2.2 then ((civil_Weekday.f a3).bind fun t150 => ((zoneinforef04_Weekday.f a3).bind fun t151 => (if t150 = t151 then (zoneinfolaw04_CivilMatchesReference.j0 k a0 a1 a2) else (none)))) else (none)) else (none)) else (none)))) else (zoneinfolaw04_CivilMatchesReference.j0 k a0 a1 a2))) = some r := by rw [if_pos rfl] at H; exact H
    clear H
    have H := H1
    clear H1
    replace H := Option.bind_eq_some_iff.mp H
    obtain ⟨t143, A70, H⟩ := H
    replace H : (if t143 = true then ((civil_Date.f a3).bind fun bt144 => ((zoneinforef04_Date.f k a3).bind fun bt147 => (if bt144.1 = bt147.1 then (if bt144.2.1 = bt147.2.1 then (if bt144.2.2 = bt147.2.2 then ((civil_Weekday.f a3).bind fun t150 => ((zoneinforef04_Weekday.f a3).bind fun t151 => (if t150 = t151 then (zoneinfolaw04_CivilMatchesReference.j0 k a0 a1 a2) else (none)))) else (none)) else (none)) else (none)))) else (zoneinfolaw04_CivilMatchesReference.j0 k a0 a1 a2)) = some r := H
    have A7 := Aside0.mk A70
    clear A70
    have HC8 := Aside0.mk H
    clear H
    go_enter Tryd.func3, Tryd.ntmps3
    go_upto_if 18 with (first | ((with_reducible refine gate_callee (f := 8) rfl ?_); refine goesL_ (some 15) rfl rfl Tryd.func8 (by kernel_rfl) rfl #[] rfl (by (try simp only [List.map_toArray, List.map_cons, List.map_nil]); first | done | rfl | (simp only [List.length_drop, List.length_take]; rfl)) ?_; (with_reducible refine (zoneinfolaw04_awake.calls  true _ ?side1 A5.out).mono ?_); (case side1 => repeat (first | exact HRg.out | (with_reducible refine Kd.C_alloc ?_ _) | (with_reducible refine Kd.C_drewN ?_ _) | (with_reducible refine Kd.C_drew ?_))); rintro e w' ⟨rfl, ⟨nd, rfl⟩⟩; refine ⟨_, rfl, ?_⟩) | ((with_reducible refine gate_callee (f := 9) rfl ?_); refine goesL_ (some 18) rfl rfl Tryd.func9 (by kernel_rfl) rfl #[.int .i64 a3] rfl (by (try simp only [List.map_toArray, List.map_cons, List.map_nil]); first | done | rfl | (simp only [List.length_drop, List.length_take]; rfl)) ?_; (with_reducible refine (zoneinforef04_InRange.calls k a3 t143 _ A7.out).mono ?_); rintro e w' ⟨rfl, ⟨nd, rfl⟩⟩; refine ⟨_, rfl, ?_⟩))
    (try simp only [Act.put, List.setIfInBounds_toArray, List.set_cons_zero, List.set_cons_succ])
    go_cut [] (fun wc => ∃ (kq : Nat), Aside0 (zoneinfolaw04_CivilMatchesReference.j0 kq a0 a1 a2 = some r) ∧ Aside0 (kq ≤ k) ∧ Drawn0 w wc)
    case first =>
      have H := HC8.out
      clear HC8
      by_cases c9 : t143 = true
      · subst c9
        have H1 : ((civil_Date.f a3).bind fun bt144 => ((zoneinforef04_Date.f k a3).bind fun bt147 => (if bt144.1 = bt147.1 then (if bt144.2.1 = bt147.2.1 then (if bt144.2.2 = bt147.2.2 then ((civil_Weekday.f a3).bind fun t150 => ((zoneinforef04_Weekday.f a3).bind fun t151 => (if t150 = t151 then (zoneinfolaw04_CivilMatchesReference.j0 k a0 a1 a2) else (none)))) else (none)) else (none)) else (none)))) = some r := by rw [if_pos rfl] at H; exact H
        clear H
        have H := H1
        clear H1
        replace H := Option.bind_eq_some_iff.mp H
        obtain ⟨⟨t144, t145, t146⟩, A100, H⟩ := H
        replace H : ((zoneinforef04_Date.f k a3).bind fun bt147 => (if t144 = bt147.1 then (if t145 = bt147.2.1 then (if t146 = bt147.2.2 then ((civil_Weekday.f a3).bind fun t150 => ((zoneinforef04_Weekday.f a3).bind fun t151 => (if t150 = t151 then (zoneinfolaw04_CivilMatchesReference.j0 k a0 a1 a2) else (none)))) else (none)) else (none)) else (none))) = some r := H
        have A10 := Aside0.mk A100
        clear A100
        replace H := Option.bind_eq_some_iff.mp H
        obtain ⟨⟨t147, t148, t149⟩, A110, H⟩ := H
        replace H : (if t144 = t147 then (if t145 = t148 then (if t146 = t149 then ((civil_Weekday.f a3).bind fun t150 => ((zoneinforef04_Weekday.f a3).bind fun t151 => (if t150 = t151 then (zoneinfolaw04_CivilMatchesReference.j0 k a0 a1 a2) else (none)))) else (none)) else (none)) else (none)) = some r := H
        have A11 := Aside0.mk A110
        clear A110
        by_cases c12 : t144 = t147
        · rw [if_pos c12] at H
          have c12b0 : (t144 == t147) = true := beq_iff_eq.mpr c12
          have c12b1 : (t144 != t147) = false := bne_eq_false_iff_eq.mpr c12
          clear c12
          (first | rw [c12b0] | (simp only [i64_w, i32_w]; rw [c12b0]) | skip)
          by_cases c13 : t145 = t148
          · rw [if_pos c13] at H
            have c13b0 : (t145 == t148) = true := beq_iff_eq.mpr c13
            have c13b1 : (t145 != t148) = false := bne_eq_false_iff_eq.mpr c13
            clear c13
            by_cases c14 : t146 = t149
            · rw [if_pos c14] at H
              have c14b0 : (t146 == t149) = true := beq_iff_eq.mpr c14
              have c14b1 : (t146 != t149) = false := bne_eq_false_iff_eq.mpr c14
              clear c14
              replace H := Option.bind_eq_some_iff.mp H
              obtain ⟨t150, A150, H⟩ := H
              replace H : ((zoneinforef04_Weekday.f a3).bind fun t151 => (if t150 = t151 then (zoneinfolaw04_CivilMatchesReference.j0 k a0 a1 a2) else (none))) = some r := H
              have A15 := Aside0.mk A150
              clear A150
              replace H := Option.bind_eq_some_iff.mp H
              obtain ⟨t151, A160, H⟩ := H
              replace H : (if t150 = t151 then (zoneinfolaw04_CivilMatchesReference.j0 k a0 a1 a2) else (none)) = some r := H
              have A16 := Aside0.mk A160
              clear A160
              by_cases c17 : t150 = t151
              · rw [if_pos c17] at H
                have c17b0 : (t150 == t151) = true := beq_iff_eq.mpr c17
                have c17b1 : (t150 != t151) = false := bne_eq_false_iff_eq.mpr c17
                clear c17
                have H' := Aside0.mk H
                clear H
                go_wp2_with (first | ((with_reducible refine gate_callee (f := 10) rfl ?_); refine goesL_ (some 21) rfl rfl Tryd.func10 (by kernel_rfl) rfl #[.int .i64 a3] rfl (by (try simp only [List.map_toArray, List.map_cons, List.map_nil]); first | done | rfl | (simp only [List.length_drop, List.length_take]; rfl)) ?_; (with_reducible refine (civil_Date.calls a3 t144 t145 t146 _ A10.out).mono ?_); rintro e w' ⟨rfl, ⟨nd, rfl⟩⟩; refine ⟨_, rfl, ?_⟩) | ((with_reducible refine gate_callee (f := 11) rfl ?_); refine goesL_ (some 27) rfl rfl Tryd.func11 (by kernel_rfl) rfl #[.int .i64 a3] rfl (by (try simp only [List.map_toArray, List.map_cons, List.map_nil]); first | done | rfl | (simp only [List.length_drop, List.length_take]; rfl)) ?_; (with_reducible refine (zoneinforef04_Date.calls k a3 t147 t148 t149 _ A11.out).mono ?_); rintro e w' ⟨rfl, ⟨nd, rfl⟩⟩; refine ⟨_, rfl, ?_⟩) | (go_at_call 12; (with_reducible refine (civil_Weekday.calls a3 t150 _ A15.out).mono ?_); rintro e w' ⟨rfl, ⟨nd, rfl⟩⟩) | (go_at_call 13; (with_reducible refine (zoneinforef04_Weekday.calls a3 t151 _ A16.out).mono ?_); rintro e w' ⟨rfl, ⟨nd, rfl⟩⟩))
                go_meet
                case rel => exact ⟨_, H', ⟨by first | omega | exact Nat.le_refl _⟩, by repeat (first | exact Drawn0.refl _ | apply Drawn0.step)⟩
              · rw [if_neg c17] at H
                exact absurd H (by simp)
            · rw [if_neg c14] at H
              exact absurd H (by simp)
          · rw [if_neg c13] at H
            exact absurd H (by simp)
        · rw [if_neg c12] at H
          exact absurd H (by simp)
      · replace c9 := Bool.eq_false_iff.mpr c9
        subst c9
        have H1 : (zoneinfolaw04_CivilMatchesReference.j0 k a0 a1 a2) = some r := by rw [if_neg (show ¬ (false = true) by decide)] at H; exact H
        clear H
        have H := H1
        clear H1
        have H' := Aside0.mk H
        clear H
        go_wp2
        go_meet
        case rel => exact ⟨_, H', ⟨by first | omega | exact Nat.le_refl _⟩, by repeat (first | exact Drawn0.refl _ | apply Drawn0.step)⟩
    case rest =>
      clear HC8
      try clear c1
      try clear p2
      try clear c3
      try clear c6
      try clear c8
      try clear c9
      try clear c10
      try clear c11
      try clear c12
      try clear c12b0
      try clear c12b1
      try clear c13
      try clear c13b0
      try clear c13b1
      try clear c14
      try clear c14b0
      try clear c14b1
      try clear c17
      try clear c17b0
      try clear c17b1
      obtain ⟨kq, HA, HJ7, ⟨mc7, rfl⟩⟩ := hcut
      cases kq with
      | zero => exact absurd HA.out (by simp [zoneinfolaw04_CivilMatchesReference.j0])
      | succ kj7 =>
        have H := HA.out
        clear HA
        simp only [zoneinfolaw04_CivilMatchesReference.j0] at H
        replace H := Option.bind_eq_some_iff.mp H
        obtain ⟨t152, A180, H⟩ := H
        replace H : (if t152 = true then ((civil_IsLeap.f a0).bind fun t153 => ((zoneinforef04_IsLeap.f a0).bind fun t154 => (if (t153 == t154) = true then ((civil_MonthDays.f a0 a1).bind fun t155 => ((zoneinforef04_MonthDays.f kj7 a0 a1).bind fun t156 => (if t155 = t156 then ((civil_Days.f a0 a1 a2).bind fun t157 => ((zoneinforef04_Days.f kj7 a0 a1 a2).bind fun t158 => (if t157 = t158 then ((civil_YearDay.f a0 a1 a2).bind fun t159 => ((zoneinforef04_YearDay.f kj7 a0 a1 a2).bind fun t160 => (some (t159 == t160)))) else (none)))) else (none)))) else (none)))) else (some true)) = some r := H
        have A18 := Aside0.mk A180
        clear A180
        by_cases c19 : t152 = true
        · subst c19
          have H1 : ((civil_IsLeap.f a0).bind fun t153 => ((zoneinforef04_IsLeap.f a0).bind fun t154 => (if (t153 == t154) = true then ((civil_MonthDays.f a0 a1).bind fun t155 => ((zoneinforef04_MonthDays.f kj7 a0 a1).bind fun t156 => (if t155 = t156 then ((civil_Days.f a0 a1 a2).bind fun t157 => ((zoneinforef04_Days.f kj7 a0 a1 a2).bind fun t158 => (if t157 = t158 then ((civil_YearDay.f a0 a1 a2).bind fun t159 => ((zoneinforef04_YearDay.f kj7 a0 a1 a2).bind fun t160 => (some (t159 == t160)))) else (none)))) else (none)))) else (none)))) = some r := by rw [if_pos rfl] at H; exact H
          clear H
          have H := H1
          clear H1
          replace H := Option.bind_eq_some_iff.mp H
          obtain ⟨t153, A200, H⟩ := H
          replace H : ((zoneinforef04_IsLeap.f a0).bind fun t154 => (if (t153 == t154) = true then ((civil_MonthDays.f a0 a1).bind fun t155 => ((zoneinforef04_MonthDays.f kj7 a0 a1).bind fun t156 => (if t155 = t156 then ((civil_Days.f a0 a1 a2).bind fun t157 => ((zoneinforef04_Days.f kj7 a0 a1 a2).bind fun t158 => (if t157 = t158 then ((civil_YearDay.f a0 a1 a2).bind fun t159 => ((zoneinforef04_YearDay.f kj7 a0 a1 a2).bind fun t160 => (some (t159 == t160)))) else (none)))) else (none)))) else (none))) = some r := H
          have A20 := Aside0.mk A200
          clear A200
          replace H := Option.bind_eq_some_iff.mp H
          obtain ⟨t154, A210, H⟩ := H
          replace H : (if (t153 == t154) = true then ((civil_MonthDays.f a0 a1).bind fun t155 => ((zoneinforef04_MonthDays.f kj7 a0 a1).bind fun t156 => (if t155 = t156 then ((civil_Days.f a0 a1 a2).bind fun t157 => ((zoneinforef04_Days.f kj7 a0 a1 a2).bind fun t158 => (if t157 = t158 then ((civil_YearDay.f a0 a1 a2).bind fun t159 => ((zoneinforef04_YearDay.f kj7 a0 a1 a2).bind fun t160 => (some (t159 == t160)))) else (none)))) else (none)))) else (none)) = some r := H
          have A21 := Aside0.mk A210
          clear A210
          by_cases c22 : (t153 == t154) = true
          · rw [if_pos c22] at H
            have c22b0 : (t153 == t154) = true := c22
            (try (have c22b1 : decide (t153 = t154) = true := by simpa using c22))
            (try (have c22b2 : (t153 == t154) = true := by simpa using c22))
            clear c22
            replace H := Option.bind_eq_some_iff.mp H
            obtain ⟨t155, A230, H⟩ := H
            replace H : ((zoneinforef04_MonthDays.f kj7 a0 a1).bind fun t156 => (if t155 = t156 then ((civil_Days.f a0 a1 a2).bind fun t157 => ((zoneinforef04_Days.f kj7 a0 a1 a2).bind fun t158 => (if t157 = t158 then ((civil_YearDay.f a0 a1 a2).bind fun t159 => ((zoneinforef04_YearDay.f kj7 a0 a1 a2).bind fun t160 => (some (t159 == t160)))) else (none)))) else (none))) = some r := H
            have A23 := Aside0.mk A230
            clear A230
            replace H := Option.bind_eq_some_iff.mp H
            obtain ⟨t156, A240, H⟩ := H
            replace H : (if t155 = t156 then ((civil_Days.f a0 a1 a2).bind fun t157 => ((zoneinforef04_Days.f kj7 a0 a1 a2).bind fun t158 => (if t157 = t158 then ((civil_YearDay.f a0 a1 a2).bind fun t159 => ((zoneinforef04_YearDay.f kj7 a0 a1 a2).bind fun t160 => (some (t159 == t160)))) else (none)))) else (none)) = some r := H
            have A24 := Aside0.mk A240
            clear A240
            by_cases c25 : t155 = t156
            · rw [if_pos c25] at H
              have c25b0 : (t155 == t156) = true := beq_iff_eq.mpr c25
              have c25b1 : (t155 != t156) = false := bne_eq_false_iff_eq.mpr c25
              clear c25
              replace H := Option.bind_eq_some_iff.mp H
              obtain ⟨t157, A260, H⟩ := H
              replace H : ((zoneinforef04_Days.f kj7 a0 a1 a2).bind fun t158 => (if t157 = t158 then ((civil_YearDay.f a0 a1 a2).bind fun t159 => ((zoneinforef04_YearDay.f kj7 a0 a1 a2).bind fun t160 => (some (t159 == t160)))) else (none))) = some r := H
              have A26 := Aside0.mk A260
              clear A260
              replace H := Option.bind_eq_some_iff.mp H
              obtain ⟨t158, A270, H⟩ := H
              replace H : (if t157 = t158 then ((civil_YearDay.f a0 a1 a2).bind fun t159 => ((zoneinforef04_YearDay.f kj7 a0 a1 a2).bind fun t160 => (some (t159 == t160)))) else (none)) = some r := H
              have A27 := Aside0.mk A270
              clear A270
              by_cases c28 : t157 = t158
              · rw [if_pos c28] at H
                have c28b0 : (t157 == t158) = true := beq_iff_eq.mpr c28
                have c28b1 : (t157 != t158) = false := bne_eq_false_iff_eq.mpr c28
                clear c28
                replace H := Option.bind_eq_some_iff.mp H
                obtain ⟨t159, A290, H⟩ := H
                replace H : ((zoneinforef04_YearDay.f kj7 a0 a1 a2).bind fun t160 => (some (t159 == t160))) = some r := H
                have A29 := Aside0.mk A290
                clear A290
                replace H := Option.bind_eq_some_iff.mp H
                obtain ⟨t160, A300, H⟩ := H
                replace H : (some (t159 == t160)) = some r := H
                have A30 := Aside0.mk A300
                clear A300
                obtain rfl := Option.some.inj H
                go_wp2_with (first | ((with_reducible refine gate_callee (f := 14) rfl ?_); refine goesL_ (some 54) rfl rfl Tryd.func14 (by kernel_rfl) rfl #[.int .i64 a0, .int .i64 a1, .int .i64 a2] rfl (by (try simp only [List.map_toArray, List.map_cons, List.map_nil]); first | done | rfl | (simp only [List.length_drop, List.length_take]; rfl)) ?_; (with_reducible refine (zoneinforef04_Valid.calls kj7 a0 a1 a2 true _ A18.out).mono ?_); rintro e w' ⟨rfl, ⟨nd, rfl⟩⟩; refine ⟨_, rfl, ?_⟩) | (go_at_call 15; (with_reducible refine (civil_IsLeap.calls a0 t153 _ A20.out).mono ?_); rintro e w' ⟨rfl, ⟨nd, rfl⟩⟩) | (go_at_call 16; (with_reducible refine (zoneinforef04_IsLeap.calls a0 t154 _ A21.out).mono ?_); rintro e w' ⟨rfl, ⟨nd, rfl⟩⟩) | (go_at_call 17; (with_reducible refine (civil_MonthDays.calls a0 a1 t155 _ ?side1 A23.out).mono ?_); (case side1 => repeat (first | exact HRg.out | (with_reducible refine Kd.C_alloc ?_ _) | (with_reducible refine Kd.C_drewN ?_ _) | (with_reducible refine Kd.C_drew ?_))); rintro e w' ⟨rfl, ⟨nd, rfl⟩⟩) | (go_at_call 18; (with_reducible refine (zoneinforef04_MonthDays.calls kj7 a0 a1 t156 _ A24.out).mono ?_); rintro e w' ⟨rfl, ⟨nd, rfl⟩⟩) | (go_at_call 19; (with_reducible refine (civil_Days.calls a0 a1 a2 t157 _ A26.out).mono ?_); rintro e w' ⟨rfl, ⟨nd, rfl⟩⟩) | (go_at_call 20; (with_reducible refine (zoneinforef04_Days.calls kj7 a0 a1 a2 t158 _ A27.out).mono ?_); rintro e w' ⟨rfl, ⟨nd, rfl⟩⟩) | (go_at_call 21; (with_reducible refine (civil_YearDay.calls a0 a1 a2 t159 _ A29.out).mono ?_); rintro e w' ⟨rfl, ⟨nd, rfl⟩⟩) | (go_at_call 22; (with_reducible refine (zoneinforef04_YearDay.calls kj7 a0 a1 a2 t160 _ A30.out).mono ?_); rintro e w' ⟨rfl, ⟨nd, rfl⟩⟩))
                go_ret
                exact ⟨by first | rfl | (simp; done) | (simp [*]; done), by repeat (first | exact Drawn0.refl _ | apply Drawn0.step)⟩
              · rw [if_neg c28] at H
                exact absurd H (by simp)
            · rw [if_neg c25] at H
              exact absurd H (by simp)
          · rw [if_neg c22] at H
            exact absurd H (by simp)
        · replace c19 := Bool.eq_false_iff.mpr c19
          subst c19
          have H1 : (some true) = some r := by rw [if_neg (show ¬ (false = true) by decide)] at H; exact H
          clear H
          have H := H1
          clear H1
          obtain rfl := Option.some.inj H
          go_wp2_with (first | ((with_reducible refine gate_callee (f := 14) rfl ?_); refine goesL_ (some 54) rfl rfl Tryd.func14 (by kernel_rfl) rfl #[.int .i64 a0, .int .i64 a1, .int .i64 a2] rfl (by (try simp only [List.map_toArray, List.map_cons, List.map_nil]); first | done | rfl | (simp only [List.length_drop, List.length_take]; rfl)) ?_; (with_reducible refine (zoneinforef04_Valid.calls kj7 a0 a1 a2 false _ A18.out).mono ?_); rintro e w' ⟨rfl, ⟨nd, rfl⟩⟩; refine ⟨_, rfl, ?_⟩))
          go_ret
          exact ⟨by first | rfl | (simp; done) | (simp [*]; done), by repeat (first | exact Drawn0.refl _ | apply Drawn0.step)⟩
  · replace c6 := Bool.eq_false_iff.mpr c6
    subst c6
    have H1 : (none) = some r := by rw [if_neg (show ¬ (false = true) by decide)] at H; exact H
    clear H
    have H := H1
    clear H1
    exact absurd H (by simp)

/-- THE ONE PURE STATEMENT of zoneinfolaw04_CivilMatchesReference: yours. -/
def zoneinfolaw04_CivilMatchesReference.Pure : Prop := ∀ (a0 : Int) (a1 : Int) (a2 : Int) (a3 : Int), (Lit.int .i64 a0).wf = true → (Lit.int .i64 a1).wf = true → (Lit.int .i64 a2).wf = true → (Lit.int .i64 a3).wf = true → ∃ k, zoneinfolaw04_CivilMatchesReference.f k a0 a1 a2 a3 = some true
theorem zoneinfolaw04_CivilMatchesReference.walk (P : zoneinfolaw04_CivilMatchesReference.Pure) (a0 : Int) (a1 : Int) (a2 : Int) (a3 : Int) (w : World) (hgl : GL w) (w0 : (Lit.int .i64 a0).wf = true) (w1 : (Lit.int .i64 a1).wf = true) (w2 : (Lit.int .i64 a2).wf = true) (w3 : (Lit.int .i64 a3).wf = true) :
    Calls Tryd.prog 3 #[.int .i64 a0, .int .i64 a1, .int .i64 a2, .int .i64 a3] w fun e w' => e = .returned (.bool true) ∧ Below w.heap.size w w' := by
  obtain ⟨k, h⟩ := P a0 a1 a2 a3 w0 w1 w2 w3
  refine (zoneinfolaw04_CivilMatchesReference.calls k a0 a1 a2 a3 true w hgl h).mono ?_
  rintro e w' ⟨rfl, hd⟩
  exact ⟨rfl, hd.below⟩

end Go.Proofs.YtnmifmjlcmgoeaaDoor.G
