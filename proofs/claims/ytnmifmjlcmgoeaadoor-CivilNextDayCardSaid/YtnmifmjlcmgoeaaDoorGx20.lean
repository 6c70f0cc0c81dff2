/- Written by a program of this session for this seat: contracts of the functions that its laws reach, or the row of a law over its plain part. -/
import Derived.Test.YtnmifmjlcmgoeaaDoorGx0
import Derived.Test.YtnmifmjlcmgoeaaDoorGx2
import Derived.Test.YtnmifmjlcmgoeaaDoorGx3
import Derived.Test.YtnmifmjlcmgoeaaDoorGx5
import Derived.Test.YtnmifmjlcmgoeaaDoorGx6
import Derived.Test.YtnmifmjlcmgoeaaDoorGx8
import Derived.Test.YtnmifmjlcmgoeaaDoorGx17
namespace Go.Proofs.YtnmifmjlcmgoeaaDoor.G
open Go.RowKit Go.Proofs.YtnmifmjlcmgoeaaDoorW.PrintWords Go.Proofs.YtnmifmjlcmgoeaaDoorW.PrintLast Go.Proofs.YtnmifmjlcmgoeaaDoorW.PrintMore
attribute [local go_sem] max2_int min2_int max_two min_two max_three min_three max_four min_four   -- for this text's walks alone
set_option linter.unusedVariables false
set_option linter.unusedSimpArgs false

/-! ### zoneinfolaw04_CivilNextDay: function 5 -/
mutual
def zoneinfolaw04_CivilNextDay.j0 : Nat → Int → Int → Int → Bool → Option (Bool)
  | 0, _, _, _, _ => none
  | k + 1, x0, x1, x2, x26 => if x26 = true then ((zoneinfolaw04_awake.f).bind fun t175 => (some t175)) else ((civil_Days.f x0 x1 x2).bind fun t176 => ((civil_Date.f (wrap64 (t176 + 1))).bind fun bt177 => ((civil_MonthDays.f x0 x1).bind fun t180 => (if (wrap64 (x2 + 1)) > t180 then (zoneinfolaw04_CivilNextDay.j1 k x0 t176 bt177.1 bt177.2.1 bt177.2.2 1 (wrap64 (x1 + 1)) x0) else (zoneinfolaw04_CivilNextDay.j1 k x0 t176 bt177.1 bt177.2.1 bt177.2.2 (wrap64 (x2 + 1)) x1 x0)))))
def zoneinfolaw04_CivilNextDay.j1 : Nat → Int → Int → Int → Int → Int → Int → Int → Int → Option (Bool)
  | 0, _, _, _, _, _, _, _, _ => none
  | k + 1, x0, x7, x8, x9, x10, x11, x12, x13 => if x12 > 12 then (if x8 = (wrap64 (x0 + 1)) then (if x9 = 1 then (if x10 = x11 then ((civil_Weekday.f (wrap64 (x7 + 1))).bind fun t181 => ((civil_Weekday.f x7).bind fun t182 => (some (t181 == (Int.tmod (wrap64 (t182 + 1)) 7))))) else (none)) else (none)) else (none)) else (if x8 = x13 then (if x9 = x12 then (if x10 = x11 then ((civil_Weekday.f (wrap64 (x7 + 1))).bind fun t183 => ((civil_Weekday.f x7).bind fun t184 => (some (t183 == (Int.tmod (wrap64 (t184 + 1)) 7))))) else (none)) else (none)) else (none))
end
def zoneinfolaw04_CivilNextDay.f (k : Nat) (a0 : Int) (a1 : Int) (a2 : Int) : Option (Bool) := (zoneinfolaw04_awake.f).bind fun t173 => (if t173 = true then ((zoneinforef04_Valid.f k a0 a1 a2).bind fun t174 => (if t174 = true then (zoneinfolaw04_CivilNextDay.j0 k a0 a1 a2 (decide (a0 ≥ 1099511627776))) else (zoneinfolaw04_CivilNextDay.j0 k a0 a1 a2 true))) else (zoneinfolaw04_CivilNextDay.j0 k a0 a1 a2 true))
theorem zoneinfolaw04_CivilNextDay.mono_l : ∀ k, (∀ y0 y1 y2 y3, LeO (zoneinfolaw04_CivilNextDay.j0 k y0 y1 y2 y3) (zoneinfolaw04_CivilNextDay.j0 (k + 1) y0 y1 y2 y3)) ∧ (∀ y0 y1 y2 y3 y4 y5 y6 y7, LeO (zoneinfolaw04_CivilNextDay.j1 k y0 y1 y2 y3 y4 y5 y6 y7) (zoneinfolaw04_CivilNextDay.j1 (k + 1) y0 y1 y2 y3 y4 y5 y6 y7))
  | 0 => ⟨fun _ _ _ _ r h => by simp [zoneinfolaw04_CivilNextDay.j0] at h, fun _ _ _ _ _ _ _ _ r h => by simp [zoneinfolaw04_CivilNextDay.j1] at h⟩
  | k + 1 => by
    obtain ⟨ih0, ih1⟩ := zoneinfolaw04_CivilNextDay.mono_l k
    refine ⟨?_, ?_⟩
    · intro y0 y1 y2 y3
      unfold zoneinfolaw04_CivilNextDay.j0
      repeat' first
      | (with_reducible exact ih0 _ _ _ _)
      | (with_reducible exact ih1 _ _ _ _ _ _ _ _)
      | (with_reducible exact zoneinforef04_Valid.mono _ _ _ _)
      | (with_reducible exact LeO.refl _)
      | (with_reducible exact LeO.none _)
      | (with_reducible refine LeO.ite ?_ ?_)
      | (with_reducible refine LeO.bind ?_ (fun _ => ?_))
      | exact ih0 _ _ _ _
      | exact ih1 _ _ _ _ _ _ _ _
      | exact zoneinforef04_Valid.mono _ _ _ _
      | exact LeO.none _
      | refine LeO.ite ?_ ?_
      | refine LeO.bind ?_ (fun _ => ?_)
    · intro y0 y1 y2 y3 y4 y5 y6 y7
      unfold zoneinfolaw04_CivilNextDay.j1
      repeat' first
      | (with_reducible exact ih0 _ _ _ _)
      | (with_reducible exact ih1 _ _ _ _ _ _ _ _)
      | (with_reducible exact zoneinforef04_Valid.mono _ _ _ _)
      | (with_reducible exact LeO.refl _)
      | (with_reducible exact LeO.none _)
      | (with_reducible refine LeO.ite ?_ ?_)
      | (with_reducible refine LeO.bind ?_ (fun _ => ?_))
      | exact ih0 _ _ _ _
      | exact ih1 _ _ _ _ _ _ _ _
      | exact zoneinforef04_Valid.mono _ _ _ _
      | exact LeO.none _
      | refine LeO.ite ?_ ?_
      | refine LeO.bind ?_ (fun _ => ?_)
theorem zoneinfolaw04_CivilNextDay.mono : ∀ a0 a1 a2 k, LeO (zoneinfolaw04_CivilNextDay.f k a0 a1 a2) (zoneinfolaw04_CivilNextDay.f (k + 1) a0 a1 a2) := by
  intro a0 a1 a2 k
  obtain ⟨ih0, ih1⟩ := zoneinfolaw04_CivilNextDay.mono_l k
  unfold zoneinfolaw04_CivilNextDay.f
  repeat' first
      | (with_reducible exact ih0 _ _ _ _)
      | (with_reducible exact ih1 _ _ _ _ _ _ _ _)
      | (with_reducible exact zoneinforef04_Valid.mono _ _ _ _)
      | (with_reducible exact LeO.refl _)
      | (with_reducible exact LeO.none _)
      | (with_reducible refine LeO.ite ?_ ?_)
      | (with_reducible refine LeO.bind ?_ (fun _ => ?_))
      | exact ih0 _ _ _ _
      | exact ih1 _ _ _ _ _ _ _ _
      | exact zoneinforef04_Valid.mono _ _ _ _
      | exact LeO.none _
      | refine LeO.ite ?_ ?_
      | refine LeO.bind ?_ (fun _ => ?_)
set_option maxHeartbeats 8000000 in
set_option maxRecDepth 100000 in
theorem zoneinfolaw04_CivilNextDay.calls (k : Nat) (a0 : Int) (a1 : Int) (a2 : Int) (r : Bool) (w : World) (hrg : GL w) (h : zoneinfolaw04_CivilNextDay.f k a0 a1 a2 = some r) :
    Calls Tryd.prog 5 #[.int .i64 a0, .int .i64 a1, .int .i64 a2] w fun e w' => e = .returned (.bool r) ∧ Drawn0 w w' := by
  have HRg := Aside0.mk hrg
  clear hrg
  have H : ((zoneinfolaw04_awake.f).bind fun t173 => (if t173 = true then ((zoneinforef04_Valid.f k a0 a1 a2).bind fun t174 => (if t174 = true then (zoneinfolaw04_CivilNextDay.j0 k a0 a1 a2 (decide (a0 ≥ 1099511627776))) else (zoneinfolaw04_CivilNextDay.j0 k a0 a1 a2 true))) else (zoneinfolaw04_CivilNextDay.j0 k a0 a1 a2 true))) = some r := h
  clear h
  have HC4 := Aside0.mk H
  clear H
  go_enter Tryd.func5, Tryd.ntmps5
  go_upto_region 1 with (fail)
  go_cut [26] (fun v26 wc => ∃ (kq : Nat) (x26_3 : Bool), v26 = .bool x26_3 ∧ Aside0 (zoneinfolaw04_CivilNextDay.j0 kq a0 a1 a2 x26_3 = some r) ∧ Aside0 (kq ≤ k) ∧ Drawn0 w wc)
  case first =>
    have H := HC4.out
    clear HC4
    replace H := Option.bind_eq_some_iff.mp H
    obtain ⟨t173, A50, H⟩ := H
    replace H : (if t173 = true then ((zoneinforef04_Valid.f k a0 a1 a2).bind fun t174 => (if t174 = true then (zoneinfolaw04_CivilNextDay.j0 k a0 a1 a2 (decide (a0 ≥ 1099511627776))) else (zoneinfolaw04_CivilNextDay.j0 k a0 a1 a2 true))) else (zoneinfolaw04_CivilNextDay.j0 k a0 a1 a2 true)) = some r := H
    have A5 := Aside0.mk A50
    clear A50
    by_cases c6 : t173 = true
    · subst c6
      have H1 : ((zoneinforef04_Valid.f k a0 a1 a2).bind fun t174 => (if t174 = true then (zoneinfolaw04_CivilNextDay.j0 k a0 a1 a2 (decide (a0 ≥ 1099511627776))) else (zoneinfolaw04_CivilNextDay.j0 k a0 a1 a2 true))) = some r := by rw [if_pos rfl] at H; exact H
      clear H
      have H := H1
      clear H1
      replace H := Option.bind_eq_some_iff.mp H
      obtain ⟨t174, A70, H⟩ := H
      replace H : (if t174 = true then (zoneinfolaw04_CivilNextDay.j0 k a0 a1 a2 (decide (a0 ≥ 1099511627776))) else (zoneinfolaw04_CivilNextDay.j0 k a0 a1 a2 true)) = some r := H
      have A7 := Aside0.mk A70
      clear A70
      by_cases c8 : t174 = true
      · subst c8
        have H1 : (zoneinfolaw04_CivilNextDay.j0 k a0 a1 a2 (decide (a0 ≥ 1099511627776))) = some r := by rw [if_pos rfl] at H; exact H
        clear H
        have H := H1
        clear H1
        have H' := Aside0.mk H
        clear H
        go_wp2_with (first | (go_at_call 8; (with_reducible refine (zoneinfolaw04_awake.calls  true _ ?side1 A5.out).mono ?_); (case side1 => repeat (first | exact HRg.out | (with_reducible refine Kd.C_alloc ?_ _) | (with_reducible refine Kd.C_drewN ?_ _) | (with_reducible refine Kd.C_drew ?_))); rintro e w' ⟨rfl, ⟨nd, rfl⟩⟩) | (go_at_call 14; (with_reducible refine (zoneinforef04_Valid.calls k a0 a1 a2 true _ A7.out).mono ?_); rintro e w' ⟨rfl, ⟨nd, rfl⟩⟩))
        go_meet
        case rel => exact ⟨_, (decide (a0 ≥ 1099511627776)), (by first | rfl | (simp; done) | (simp [*]; done)), H', ⟨by first | omega | exact Nat.le_refl _⟩, by repeat (first | exact Drawn0.refl _ | apply Drawn0.step)⟩
      · replace c8 := Bool.eq_false_iff.mpr c8
        subst c8
        have H1 : (zoneinfolaw04_CivilNextDay.j0 k a0 a1 a2 true) = some r := by rw [if_neg (show ¬ (false = true) by decide)] at H; exact H
        clear H
        have H := H1
        clear H1
        have H' := Aside0.mk H
        clear H
        go_wp2_with (first | (go_at_call 8; (with_reducible refine (zoneinfolaw04_awake.calls  true _ ?side1 A5.out).mono ?_); (case side1 => repeat (first | exact HRg.out | (with_reducible refine Kd.C_alloc ?_ _) | (with_reducible refine Kd.C_drewN ?_ _) | (with_reducible refine Kd.C_drew ?_))); rintro e w' ⟨rfl, ⟨nd, rfl⟩⟩) | (go_at_call 14; (with_reducible refine (zoneinforef04_Valid.calls k a0 a1 a2 false _ A7.out).mono ?_); rintro e w' ⟨rfl, ⟨nd, rfl⟩⟩))
        go_meet
        case rel => exact ⟨_, (true), (by first | rfl | (simp; done) | (simp [*]; done)), H', ⟨by first | omega | exact Nat.le_refl _⟩, by repeat (first | exact Drawn0.refl _ | apply Drawn0.step)⟩
    · replace c6 := Bool.eq_false_iff.mpr c6
      subst c6
      have H1 : (zoneinfolaw04_CivilNextDay.j0 k a0 a1 a2 true) = some r := by rw [if_neg (show ¬ (false = true) by decide)] at H; exact H
      clear H
      have H := H1
      clear H1
      have H' := Aside0.mk H
      clear H
      go_wp2_with (first | (go_at_call 8; (with_reducible refine (zoneinfolaw04_awake.calls  false _ ?side1 A5.out).mono ?_); (case side1 => repeat (first | exact HRg.out | (with_reducible refine Kd.C_alloc ?_ _) | (with_reducible refine Kd.C_drewN ?_ _) | (with_reducible refine Kd.C_drew ?_))); rintro e w' ⟨rfl, ⟨nd, rfl⟩⟩))
      go_meet
      case rel => exact ⟨_, (true), (by first | rfl | (simp; done) | (simp [*]; done)), H', ⟨by first | omega | exact Nat.le_refl _⟩, by repeat (first | exact Drawn0.refl _ | apply Drawn0.step)⟩
  case rest =>
    clear HC4
    try clear p2
    try clear c5
    try clear c6
    try clear c8
    obtain ⟨kq, x26_3, rfl, HA, HJ3, ⟨mc3, rfl⟩⟩ := hcut
    cases kq with
    | zero => exact absurd HA.out (by simp [zoneinfolaw04_CivilNextDay.j0])
    | succ kj3 =>
      have H := HA.out
      clear HA
      simp only [zoneinfolaw04_CivilNextDay.j0] at H
      by_cases c9 : x26_3 = true
      · subst c9
        have H1 : ((zoneinfolaw04_awake.f).bind fun t175 => (some t175)) = some r := by rw [if_pos rfl] at H; exact H
        clear H
        have H := H1
        clear H1
        replace H := Option.bind_eq_some_iff.mp H
        obtain ⟨t175, A100, H⟩ := H
        replace H : (some t175) = some r := H
        have A10 := Aside0.mk A100
        clear A100
        obtain rfl := Option.some.inj H
        go_wp2_with (first | ((with_reducible refine gate_callee (f := 8) rfl ?_); refine goesL_ (some 27) rfl rfl Tryd.func8 (by kernel_rfl) rfl #[] rfl (by (try simp only [List.map_toArray, List.map_cons, List.map_nil]); first | done | rfl | (simp only [List.length_drop, List.length_take]; rfl)) ?_; (with_reducible refine (zoneinfolaw04_awake.calls  t175 _ ?side1 A10.out).mono ?_); (case side1 => repeat (first | exact HRg.out | (with_reducible refine Kd.C_alloc ?_ _) | (with_reducible refine Kd.C_drewN ?_ _) | (with_reducible refine Kd.C_drew ?_))); rintro e w' ⟨rfl, ⟨nd, rfl⟩⟩; refine ⟨_, rfl, ?_⟩))
        go_ret
        exact ⟨by first | rfl | (simp; done) | (simp [*]; done), by repeat (first | exact Drawn0.refl _ | apply Drawn0.step)⟩
      · replace c9 := Bool.eq_false_iff.mpr c9
        subst c9
        have H1 : ((civil_Days.f a0 a1 a2).bind fun t176 => ((civil_Date.f (wrap64 (t176 + 1))).bind fun bt177 => ((civil_MonthDays.f a0 a1).bind fun t180 => (if (wrap64 (a2 + 1)) > t180 then (zoneinfolaw04_CivilNextDay.j1 kj3 a0 t176 bt177.1 bt177.2.1 bt177.2.2 1 (wrap64 (a1 + 1)) a0) else (zoneinfolaw04_CivilNextDay.j1 kj3 a0 t176 bt177.1 bt177.2.1 bt177.2.2 (wrap64 (a2 + 1)) a1 a0))))) = some r := by rw [if_neg (show ¬ (false = true) by decide)] at H; exact H
        clear H
        have H := H1
        clear H1
        replace H := Option.bind_eq_some_iff.mp H
        obtain ⟨t176, A110, H⟩ := H
        replace H : ((civil_Date.f (wrap64 (t176 + 1))).bind fun bt177 => ((civil_MonthDays.f a0 a1).bind fun t180 => (if (wrap64 (a2 + 1)) > t180 then (zoneinfolaw04_CivilNextDay.j1 kj3 a0 t176 bt177.1 bt177.2.1 bt177.2.2 1 (wrap64 (a1 + 1)) a0) else (zoneinfolaw04_CivilNextDay.j1 kj3 a0 t176 bt177.1 bt177.2.1 bt177.2.2 (wrap64 (a2 + 1)) a1 a0)))) = some r := H
        have A11 := Aside0.mk A110
        clear A110
        replace H := Option.bind_eq_some_iff.mp H
        obtain ⟨⟨t177, t178, t179⟩, A120, H⟩ := H
        replace H : ((civil_MonthDays.f a0 a1).bind fun t180 => (if (wrap64 (a2 + 1)) > t180 then (zoneinfolaw04_CivilNextDay.j1 kj3 a0 t176 t177 t178 t179 1 (wrap64 (a1 + 1)) a0) else (zoneinfolaw04_CivilNextDay.j1 kj3 a0 t176 t177 t178 t179 (wrap64 (a2 + 1)) a1 a0))) = some r := H
        have A12 := Aside0.mk A120
        clear A120
        replace H := Option.bind_eq_some_iff.mp H
        obtain ⟨t180, A130, H⟩ := H
        replace H : (if (wrap64 (a2 + 1)) > t180 then (zoneinfolaw04_CivilNextDay.j1 kj3 a0 t176 t177 t178 t179 1 (wrap64 (a1 + 1)) a0) else (zoneinfolaw04_CivilNextDay.j1 kj3 a0 t176 t177 t178 t179 (wrap64 (a2 + 1)) a1 a0)) = some r := H
        have A13 := Aside0.mk A130
        clear A130
        have HC14 := Aside0.mk H
        clear H
        go_upto_if 47 with (first | ((with_reducible refine gate_callee (f := 19) rfl ?_); refine goesL_ (some 31) rfl rfl Tryd.func19 (by kernel_rfl) rfl #[.int .i64 a0, .int .i64 a1, .int .i64 a2] rfl (by (try simp only [List.map_toArray, List.map_cons, List.map_nil]); first | done | rfl | (simp only [List.length_drop, List.length_take]; rfl)) ?_; (with_reducible refine (civil_Days.calls a0 a1 a2 t176 _ A11.out).mono ?_); rintro e w' ⟨rfl, ⟨nd, rfl⟩⟩; refine ⟨_, rfl, ?_⟩) | ((with_reducible refine gate_callee (f := 10) rfl ?_); refine goesL_ (some 35) rfl rfl Tryd.func10 (by kernel_rfl) rfl #[.int .i64 (wrap64 (t176 + 1))] rfl (by (try simp only [List.map_toArray, List.map_cons, List.map_nil]); first | done | rfl | (simp only [List.length_drop, List.length_take]; rfl)) ?_; (with_reducible refine (civil_Date.calls (wrap64 (t176 + 1)) t177 t178 t179 _ A12.out).mono ?_); rintro e w' ⟨rfl, ⟨nd, rfl⟩⟩; refine ⟨_, rfl, ?_⟩) | ((with_reducible refine gate_callee (f := 17) rfl ?_); refine goesL_ (some 46) rfl rfl Tryd.func17 (by kernel_rfl) rfl #[.int .i64 a0, .int .i64 a1] rfl (by (try simp only [List.map_toArray, List.map_cons, List.map_nil]); first | done | rfl | (simp only [List.length_drop, List.length_take]; rfl)) ?_; (with_reducible refine (civil_MonthDays.calls a0 a1 t180 _ ?side1 A13.out).mono ?_); (case side1 => repeat (first | exact HRg.out | (with_reducible refine Kd.C_alloc ?_ _) | (with_reducible refine Kd.C_drewN ?_ _) | (with_reducible refine Kd.C_drew ?_))); rintro e w' ⟨rfl, ⟨nd, rfl⟩⟩; refine ⟨_, rfl, ?_⟩))
        (try simp only [Act.put, List.setIfInBounds_toArray, List.set_cons_zero, List.set_cons_succ])
        go_cut [11, 12] (fun v11 v12 wc => ∃ (kq : Nat) (x11_13 : Int) (x12_13 : Int), v11 = .int .i64 x11_13 ∧ v12 = .int .i64 x12_13 ∧ Aside0 (zoneinfolaw04_CivilNextDay.j1 kq a0 t176 t177 t178 t179 x11_13 x12_13 a0 = some r) ∧ Aside0 (kq ≤ kj3) ∧ Drawn0 w wc)
        case first =>
          have H := HC14.out
          clear HC14
          by_cases c15 : (wrap64 (a2 + 1)) > t180
          · rw [if_pos c15] at H
            have c15b0 : decide (t180 < (wrap64 (a2 + 1))) = true := decide_eq_true c15
            clear c15
            (first | rw [c15b0] | (simp only [i64_w, i32_w]; rw [c15b0]) | skip)
            have H' := Aside0.mk H
            clear H
            go_wp2
            go_meet
            case rel => exact ⟨_, (1), (wrap64 (a1 + 1)), (by first | rfl | (simp; done) | (simp [*]; done)), (by first | rfl | (simp; done) | (simp [*]; done)), H', ⟨by have := HJ3.out; first | omega | exact Nat.le_refl _⟩, by repeat (first | exact Drawn0.refl _ | apply Drawn0.step)⟩
          · rw [if_neg c15] at H
            have c15b0 : decide (t180 < (wrap64 (a2 + 1))) = false := decide_eq_false c15
            clear c15
            (first | rw [c15b0] | (simp only [i64_w, i32_w]; rw [c15b0]) | skip)
            have H' := Aside0.mk H
            clear H
            go_wp2
            go_meet
            case rel => exact ⟨_, (wrap64 (a2 + 1)), (a1), (by first | rfl | (simp; done) | (simp [*]; done)), (by first | rfl | (simp; done) | (simp [*]; done)), H', ⟨by have := HJ3.out; first | omega | exact Nat.le_refl _⟩, by repeat (first | exact Drawn0.refl _ | apply Drawn0.step)⟩
        case rest =>
          clear HC14
          try clear c1
          try clear p2
          try clear c3
          try clear c5
          try clear c6
          try clear p6
          try clear c8
          try clear c9
          try clear c10
          try clear c15
          try clear c15b0
          try clear p2
          obtain ⟨kq, x11_13, x12_13, rfl, rfl, HA, HJ13, ⟨mc13, rfl⟩⟩ := hcut
          cases kq with
          | zero => exact absurd HA.out (by simp [zoneinfolaw04_CivilNextDay.j1])
          | succ kj13 =>
            have H := HA.out
            clear HA
            simp only [zoneinfolaw04_CivilNextDay.j1] at H
            by_cases c16 : x12_13 > 12
            · rw [if_pos c16] at H
              have c16b0 : decide (12 < x12_13) = true := decide_eq_true c16
              clear c16
              by_cases c17 : t177 = (wrap64 (a0 + 1))
              · rw [if_pos c17] at H
                have c17b0 : (t177 == (wrap64 (a0 + 1))) = true := beq_iff_eq.mpr c17
                have c17b1 : (t177 != (wrap64 (a0 + 1))) = false := bne_eq_false_iff_eq.mpr c17
                clear c17
                by_cases c18 : t178 = 1
                · rw [if_pos c18] at H
                  have c18b0 : (t178 == 1) = true := beq_iff_eq.mpr c18
                  have c18b1 : (t178 != 1) = false := bne_eq_false_iff_eq.mpr c18
                  clear c18
                  by_cases c19 : t179 = x11_13
                  · rw [if_pos c19] at H
                    have c19b0 : (t179 == x11_13) = true := beq_iff_eq.mpr c19
                    have c19b1 : (t179 != x11_13) = false := bne_eq_false_iff_eq.mpr c19
                    clear c19
                    replace H := Option.bind_eq_some_iff.mp H
                    obtain ⟨t181, A200, H⟩ := H
                    replace H : ((civil_Weekday.f t176).bind fun t182 => (some (t181 == (Int.tmod (wrap64 (t182 + 1)) 7)))) = some r := H
                    have A20 := Aside0.mk A200
                    clear A200
                    replace H := Option.bind_eq_some_iff.mp H
                    obtain ⟨t182, A210, H⟩ := H
                    replace H : (some (t181 == (Int.tmod (wrap64 (t182 + 1)) 7))) = some r := H
                    have A21 := Aside0.mk A210
                    clear A210
                    obtain rfl := Option.some.inj H
                    go_wp2_with (first | (go_at_call 12; (with_reducible refine (civil_Weekday.calls (wrap64 (t176 + 1)) t181 _ A20.out).mono ?_); rintro e w' ⟨rfl, ⟨nd, rfl⟩⟩) | (go_at_call 12; (with_reducible refine (civil_Weekday.calls t176 t182 _ A21.out).mono ?_); rintro e w' ⟨rfl, ⟨nd, rfl⟩⟩))
                    go_ret
                    exact ⟨by first | rfl | (simp; done) | (simp [*]; done), by repeat (first | exact Drawn0.refl _ | apply Drawn0.step)⟩
                  · rw [if_neg c19] at H
                    exact absurd H (by simp)
                · rw [if_neg c18] at H
                  exact absurd H (by simp)
              · rw [if_neg c17] at H
                exact absurd H (by simp)
            · rw [if_neg c16] at H
              have c16b0 : decide (12 < x12_13) = false := decide_eq_false c16
              clear c16
              by_cases c22 : t177 = a0
              · rw [if_pos c22] at H
                have c22b0 : (t177 == a0) = true := beq_iff_eq.mpr c22
                have c22b1 : (t177 != a0) = false := bne_eq_false_iff_eq.mpr c22
                clear c22
                by_cases c23 : t178 = x12_13
                · rw [if_pos c23] at H
                  have c23b0 : (t178 == x12_13) = true := beq_iff_eq.mpr c23
                  have c23b1 : (t178 != x12_13) = false := bne_eq_false_iff_eq.mpr c23
                  clear c23
                  by_cases c24 : t179 = x11_13
                  · rw [if_pos c24] at H
                    have c24b0 : (t179 == x11_13) = true := beq_iff_eq.mpr c24
                    have c24b1 : (t179 != x11_13) = false := bne_eq_false_iff_eq.mpr c24
                    clear c24
                    replace H := Option.bind_eq_some_iff.mp H
                    obtain ⟨t183, A250, H⟩ := H
                    replace H : ((civil_Weekday.f t176).bind fun t184 => (some (t183 == (Int.tmod (wrap64 (t184 + 1)) 7)))) = some r := H
                    have A25 := Aside0.mk A250
                    clear A250
                    replace H := Option.bind_eq_some_iff.mp H
                    obtain ⟨t184, A260, H⟩ := H
                    replace H : (some (t183 == (Int.tmod (wrap64 (t184 + 1)) 7))) = some r := H
                    have A26 := Aside0.mk A260
                    clear A260
                    obtain rfl := Option.some.inj H
                    go_wp2_with (first | (go_at_call 12; (with_reducible refine (civil_Weekday.calls (wrap64 (t176 + 1)) t183 _ A25.out).mono ?_); rintro e w' ⟨rfl, ⟨nd, rfl⟩⟩) | (go_at_call 12; (with_reducible refine (civil_Weekday.calls t176 t184 _ A26.out).mono ?_); rintro e w' ⟨rfl, ⟨nd, rfl⟩⟩))
                    go_ret
                    exact ⟨by first | rfl | (simp; done) | (simp [*]; done), by repeat (first | exact Drawn0.refl _ | apply Drawn0.step)⟩
                  · rw [if_neg c24] at H
                    exact absurd H (by simp)
                · rw [if_neg c23] at H
                  exact absurd H (by simp)
              · rw [if_neg c22] at H
                exact absurd H (by simp)

/-- THE ONE PURE STATEMENT of zoneinfolaw04_CivilNextDay: yours. -/
def zoneinfolaw04_CivilNextDay.Pure : Prop := ∀ (a0 : Int) (a1 : Int) (a2 : Int), (Lit.int .i64 a0).wf = true → (Lit.int .i64 a1).wf = true → (Lit.int .i64 a2).wf = true → ∃ k, zoneinfolaw04_CivilNextDay.f k a0 a1 a2 = some true
theorem zoneinfolaw04_CivilNextDay.walk (P : zoneinfolaw04_CivilNextDay.Pure) (a0 : Int) (a1 : Int) (a2 : Int) (w : World) (hgl : GL w) (w0 : (Lit.int .i64 a0).wf = true) (w1 : (Lit.int .i64 a1).wf = true) (w2 : (Lit.int .i64 a2).wf = true) :
    Calls Tryd.prog 5 #[.int .i64 a0, .int .i64 a1, .int .i64 a2] w fun e w' => e = .returned (.bool true) ∧ Below w.heap.size w w' := by
  obtain ⟨k, h⟩ := P a0 a1 a2 w0 w1 w2
  refine (zoneinfolaw04_CivilNextDay.calls k a0 a1 a2 true w hgl h).mono ?_
  rintro e w' ⟨rfl, hd⟩
  exact ⟨rfl, hd.below⟩

end Go.Proofs.YtnmifmjlcmgoeaaDoor.G
