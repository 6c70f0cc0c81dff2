/- Written by a program of this session for this seat: contracts of the functions that its laws reach, or the row of a law over its plain part. -/
import Derived.Test.YtnmifmjlcmgoeaaDoorGx0
import Derived.Test.YtnmifmjlcmgoeaaDoorGx3
import Derived.Test.YtnmifmjlcmgoeaaDoorGx4
import Derived.Test.YtnmifmjlcmgoeaaDoorGx5
import Derived.Test.YtnmifmjlcmgoeaaDoorGx6
import Derived.Test.YtnmifmjlcmgoeaaDoorGx7
import Derived.Test.YtnmifmjlcmgoeaaDoorGx8
import Derived.Test.YtnmifmjlcmgoeaaDoorGx17
namespace Go.Proofs.YtnmifmjlcmgoeaaDoor.G
open Go.RowKit Go.Proofs.YtnmifmjlcmgoeaaDoorW.PrintWords Go.Proofs.YtnmifmjlcmgoeaaDoorW.PrintLast Go.Proofs.YtnmifmjlcmgoeaaDoorW.PrintMore
attribute [local go_sem] max2_int min2_int max_two min_two max_three min_three max_four min_four   -- for this text's walks alone
set_option linter.unusedVariables false
set_option linter.unusedSimpArgs false

/-! ### zoneinfolaw04_CivilCycles: function 6 -/
mutual
def zoneinfolaw04_CivilCycles.j0 : Nat → Int → Int → Int → Bool → Option (Bool)
  | 0, _, _, _, _ => none
  | k + 1, x0, x1, x2, x23 => if x23 = true then ((zoneinfolaw04_awake.f).bind fun t187 => (some t187)) else ((civil_Days.f x0 x1 x2).bind fun t188 => ((civil_Days.f (wrap64 (x0 + 1)) 1 1).bind fun t189 => ((civil_Days.f x0 1 1).bind fun t190 => (zoneinfolaw04_CivilCycles.l0 k x0 x1 x2 t188 (wrap64 (t189 - t190)) 0 1))))
def zoneinfolaw04_CivilCycles.l0 : Nat → Int → Int → Int → Int → Int → Int → Int → Option (Bool)
  | 0, _, _, _, _, _, _, _ => none
  | k + 1, x0, x1, x2, x7, x8, x9, x10 => if x10 ≤ 12 then ((civil_MonthDays.f x0 x10).bind fun t191 => (zoneinfolaw04_CivilCycles.l0 k x0 x1 x2 x7 x8 (wrap64 (x9 + t191)) (wrap64 (x10 + 1)))) else ((civil_Days.f (wrap64 (x0 + 400)) x1 x2).bind fun t192 => (if t192 = (wrap64 (x7 + 146097)) then ((civil_Weekday.f (wrap64 (x7 + 146097))).bind fun t193 => ((civil_Weekday.f x7).bind fun t194 => (if t193 = t194 then ((civil_IsLeap.f x0).bind fun t195 => (if ((x8 == 366) == t195) = true then (if ((x8 == 365) == (!t195)) = true then (if x9 = x8 then ((civil_YearDay.f x0 x1 x2).bind fun t196 => ((civil_Days.f x0 1 1).bind fun t197 => (if t196 = (wrap64 (x7 - t197)) then (some (decide (t196 < x8))) else (none)))) else (none)) else (none)) else (none))) else (none)))) else (none)))
end
def zoneinfolaw04_CivilCycles.f (k : Nat) (a0 : Int) (a1 : Int) (a2 : Int) : Option (Bool) := (zoneinfolaw04_awake.f).bind fun t185 => (if t185 = true then ((zoneinforef04_Valid.f k a0 a1 a2).bind fun t186 => (if t186 = true then (zoneinfolaw04_CivilCycles.j0 k a0 a1 a2 (decide (a0 ≥ 1099511627376))) else (zoneinfolaw04_CivilCycles.j0 k a0 a1 a2 true))) else (zoneinfolaw04_CivilCycles.j0 k a0 a1 a2 true))
theorem zoneinfolaw04_CivilCycles.mono_l : ∀ k, (∀ y0 y1 y2 y3, LeO (zoneinfolaw04_CivilCycles.j0 k y0 y1 y2 y3) (zoneinfolaw04_CivilCycles.j0 (k + 1) y0 y1 y2 y3)) ∧ (∀ y0 y1 y2 y3 y4 y5 y6, LeO (zoneinfolaw04_CivilCycles.l0 k y0 y1 y2 y3 y4 y5 y6) (zoneinfolaw04_CivilCycles.l0 (k + 1) y0 y1 y2 y3 y4 y5 y6))
  | 0 => ⟨fun _ _ _ _ r h => by simp [zoneinfolaw04_CivilCycles.j0] at h, fun _ _ _ _ _ _ _ r h => by simp [zoneinfolaw04_CivilCycles.l0] at h⟩
  | k + 1 => by
    obtain ⟨ih0, ih1⟩ := zoneinfolaw04_CivilCycles.mono_l k
    refine ⟨?_, ?_⟩
    · intro y0 y1 y2 y3
      unfold zoneinfolaw04_CivilCycles.j0
      repeat' first
      | (with_reducible exact ih0 _ _ _ _)
      | (with_reducible exact ih1 _ _ _ _ _ _ _)
      | (with_reducible exact zoneinforef04_Valid.mono _ _ _ _)
      | (with_reducible exact LeO.refl _)
      | (with_reducible exact LeO.none _)
      | (with_reducible refine LeO.ite ?_ ?_)
      | (with_reducible refine LeO.bind ?_ (fun _ => ?_))
      | exact ih0 _ _ _ _
      | exact ih1 _ _ _ _ _ _ _
      | exact zoneinforef04_Valid.mono _ _ _ _
      | exact LeO.none _
      | refine LeO.ite ?_ ?_
      | refine LeO.bind ?_ (fun _ => ?_)
    · intro y0 y1 y2 y3 y4 y5 y6
      unfold zoneinfolaw04_CivilCycles.l0
      repeat' first
      | (with_reducible exact ih0 _ _ _ _)
      | (with_reducible exact ih1 _ _ _ _ _ _ _)
      | (with_reducible exact zoneinforef04_Valid.mono _ _ _ _)
      | (with_reducible exact LeO.refl _)
      | (with_reducible exact LeO.none _)
      | (with_reducible refine LeO.ite ?_ ?_)
      | (with_reducible refine LeO.bind ?_ (fun _ => ?_))
      | exact ih0 _ _ _ _
      | exact ih1 _ _ _ _ _ _ _
      | exact zoneinforef04_Valid.mono _ _ _ _
      | exact LeO.none _
      | refine LeO.ite ?_ ?_
      | refine LeO.bind ?_ (fun _ => ?_)
theorem zoneinfolaw04_CivilCycles.mono : ∀ a0 a1 a2 k, LeO (zoneinfolaw04_CivilCycles.f k a0 a1 a2) (zoneinfolaw04_CivilCycles.f (k + 1) a0 a1 a2) := by
  intro a0 a1 a2 k
  obtain ⟨ih0, ih1⟩ := zoneinfolaw04_CivilCycles.mono_l k
  unfold zoneinfolaw04_CivilCycles.f
  repeat' first
      | (with_reducible exact ih0 _ _ _ _)
      | (with_reducible exact ih1 _ _ _ _ _ _ _)
      | (with_reducible exact zoneinforef04_Valid.mono _ _ _ _)
      | (with_reducible exact LeO.refl _)
      | (with_reducible exact LeO.none _)
      | (with_reducible refine LeO.ite ?_ ?_)
      | (with_reducible refine LeO.bind ?_ (fun _ => ?_))
      | exact ih0 _ _ _ _
      | exact ih1 _ _ _ _ _ _ _
      | exact zoneinforef04_Valid.mono _ _ _ _
      | exact LeO.none _
      | refine LeO.ite ?_ ?_
      | refine LeO.bind ?_ (fun _ => ?_)
set_option maxHeartbeats 8000000 in
set_option maxRecDepth 100000 in
theorem zoneinfolaw04_CivilCycles.calls (k : Nat) (a0 : Int) (a1 : Int) (a2 : Int) (r : Bool) (w : World) (hrg : GL w) (h : zoneinfolaw04_CivilCycles.f k a0 a1 a2 = some r) :
    Calls Tryd.prog 6 #[.int .i64 a0, .int .i64 a1, .int .i64 a2] w fun e w' => e = .returned (.bool r) ∧ Drawn0 w w' := by
  have HRg := Aside0.mk hrg
  clear hrg
  have H : ((zoneinfolaw04_awake.f).bind fun t185 => (if t185 = true then ((zoneinforef04_Valid.f k a0 a1 a2).bind fun t186 => (if t186 = true then (zoneinfolaw04_CivilCycles.j0 k a0 a1 a2 (decide (a0 ≥ 1099511627376))) else (zoneinfolaw04_CivilCycles.j0 k a0 a1 a2 true))) else (zoneinfolaw04_CivilCycles.j0 k a0 a1 a2 true))) = some r := h
  clear h
  have HC4 := Aside0.mk H
  clear H
  go_enter Tryd.func6, Tryd.ntmps6
  go_upto_region 1 with (fail)
  go_cut [23] (fun v23 wc => ∃ (kq : Nat) (x23_3 : Bool), v23 = .bool x23_3 ∧ Aside0 (zoneinfolaw04_CivilCycles.j0 kq a0 a1 a2 x23_3 = some r) ∧ Aside0 (kq ≤ k) ∧ Drawn0 w wc)
  case first =>
    have H := HC4.out
    clear HC4
    replace H := Option.bind_eq_some_iff.mp H
    obtain ⟨t185, A50, H⟩ := H
    replace H : (if t185 = true then ((zoneinforef04_Valid.f k a0 a1 a2).bind fun t186 => (if t186 = true then (zoneinfolaw04_CivilCycles.j0 k a0 a1 a2 (decide (a0 ≥ 1099511627376))) else (zoneinfolaw04_CivilCycles.j0 k a0 a1 a2 true))) else (zoneinfolaw04_CivilCycles.j0 k a0 a1 a2 true)) = some r := H
    have A5 := Aside0.mk A50
    clear A50
    by_cases c6 : t185 = true
    · subst c6
      have H1 : ((zoneinforef04_Valid.f k a0 a1 a2).bind fun t186 => (if t186 = true then (zoneinfolaw04_CivilCycles.j0 k a0 a1 a2 (decide (a0 ≥ 1099511627376))) else (zoneinfolaw04_CivilCycles.j0 k a0 a1 a2 true))) = some r := by rw [if_pos rfl] at H; exact H
      clear H
      have H := H1
      clear H1
      replace H := Option.bind_eq_some_iff.mp H
      obtain ⟨t186, A70, H⟩ := H
      replace H : (if t186 = true then (zoneinfolaw04_CivilCycles.j0 k a0 a1 a2 (decide (a0 ≥ 1099511627376))) else (zoneinfolaw04_CivilCycles.j0 k a0 a1 a2 true)) = some r := H
      have A7 := Aside0.mk A70
      clear A70
      by_cases c8 : t186 = true
      · subst c8
        have H1 : (zoneinfolaw04_CivilCycles.j0 k a0 a1 a2 (decide (a0 ≥ 1099511627376))) = some r := by rw [if_pos rfl] at H; exact H
        clear H
        have H := H1
        clear H1
        have H' := Aside0.mk H
        clear H
        go_wp2_with (first | (go_at_call 8; (with_reducible refine (zoneinfolaw04_awake.calls  true _ ?side1 A5.out).mono ?_); (case side1 => repeat (first | exact HRg.out | (with_reducible refine Kd.C_alloc ?_ _) | (with_reducible refine Kd.C_drewN ?_ _) | (with_reducible refine Kd.C_drew ?_))); rintro e w' ⟨rfl, ⟨nd, rfl⟩⟩) | (go_at_call 14; (with_reducible refine (zoneinforef04_Valid.calls k a0 a1 a2 true _ A7.out).mono ?_); rintro e w' ⟨rfl, ⟨nd, rfl⟩⟩))
        go_meet
        case rel => exact ⟨_, (decide (a0 ≥ 1099511627376)), (by first | rfl | (simp; done) | (simp [*]; done)), H', ⟨by first | omega | exact Nat.le_refl _⟩, by repeat (first | exact Drawn0.refl _ | apply Drawn0.step)⟩
      · replace c8 := Bool.eq_false_iff.mpr c8
        subst c8
        have H1 : (zoneinfolaw04_CivilCycles.j0 k a0 a1 a2 true) = some r := by rw [if_neg (show ¬ (false = true) by decide)] at H; exact H
        clear H
        have H := H1
        clear H1
        have H' := Aside0.mk H
        clear H
        go_wp2_with (first | (go_at_call 8; (with_reducible refine (zoneinfolaw04_awake.calls  true _ ?side1 A5.out).mono ?_); (case side1 => repeat (first | exact HRg.out | (with_reducible refine Kd.C_alloc ?_ _) | (with_reducible refine Kd.C_drewN ?_ _) | (with_reducible refine Kd.C_drew ?_))); rintro e w' ⟨rfl, ⟨nd, rfl⟩⟩) | (go_at_call 14; (with_reducible refine (zoneinforef04_Valid.calls k a0 a1 a2 false _ A7.out).mono ?_); rintro e w' ⟨rfl, ⟨nd, rfl⟩⟩))
        go_meet
        case rel => exact ⟨_, (true), (by first | rfl | (simp; done) | (simp [*]; done)), H', ⟨by first | omega | exact Nat.le_refl _⟩, by repeat (first | exact Drawn0.refl _ | apply Drawn0.step)⟩
    · replace c6 := Bool.eq_false_iff.mpr c6
      subst c6
      have H1 : (zoneinfolaw04_CivilCycles.j0 k a0 a1 a2 true) = some r := by rw [if_neg (show ¬ (false = true) by decide)] at H; exact H
      clear H
      have H := H1
      clear H1
      have H' := Aside0.mk H
      clear H
      go_wp2_with (first | (go_at_call 8; (with_reducible refine (zoneinfolaw04_awake.calls  false _ ?side1 A5.out).mono ?_); (case side1 => repeat (first | exact HRg.out | (with_reducible refine Kd.C_alloc ?_ _) | (with_reducible refine Kd.C_drewN ?_ _) | (with_reducible refine Kd.C_drew ?_))); rintro e w' ⟨rfl, ⟨nd, rfl⟩⟩))
      go_meet
      case rel => exact ⟨_, (true), (by first | rfl | (simp; done) | (simp [*]; done)), H', ⟨by first | omega | exact Nat.le_refl _⟩, by repeat (first | exact Drawn0.refl _ | apply Drawn0.step)⟩
  case rest =>
    clear HC4
    try clear p2
    try clear c6
    try clear c8
    obtain ⟨kq, x23_3, rfl, HA, HJ3, ⟨mc3, rfl⟩⟩ := hcut
    cases kq with
    | zero => exact absurd HA.out (by simp [zoneinfolaw04_CivilCycles.j0])
    | succ kj3 =>
      have H := HA.out
      clear HA
      simp only [zoneinfolaw04_CivilCycles.j0] at H
      by_cases c9 : x23_3 = true
      · subst c9
        have H1 : ((zoneinfolaw04_awake.f).bind fun t187 => (some t187)) = some r := by rw [if_pos rfl] at H; exact H
        clear H
        have H := H1
        clear H1
        replace H := Option.bind_eq_some_iff.mp H
        obtain ⟨t187, A100, H⟩ := H
        replace H : (some t187) = some r := H
        have A10 := Aside0.mk A100
        clear A100
        obtain rfl := Option.some.inj H
        go_wp2_with (first | ((with_reducible refine gate_callee (f := 8) rfl ?_); refine goesL_ (some 24) rfl rfl Tryd.func8 (by kernel_rfl) rfl #[] rfl (by (try simp only [List.map_toArray, List.map_cons, List.map_nil]); first | done | rfl | (simp only [List.length_drop, List.length_take]; rfl)) ?_; (with_reducible refine (zoneinfolaw04_awake.calls  t187 _ ?side1 A10.out).mono ?_); (case side1 => repeat (first | exact HRg.out | (with_reducible refine Kd.C_alloc ?_ _) | (with_reducible refine Kd.C_drewN ?_ _) | (with_reducible refine Kd.C_drew ?_))); rintro e w' ⟨rfl, ⟨nd, rfl⟩⟩; refine ⟨_, rfl, ?_⟩))
        go_ret
        exact ⟨by first | rfl | (simp; done) | (simp [*]; done), by repeat (first | exact Drawn0.refl _ | apply Drawn0.step)⟩
      · replace c9 := Bool.eq_false_iff.mpr c9
        subst c9
        have H1 : ((civil_Days.f a0 a1 a2).bind fun t188 => ((civil_Days.f (wrap64 (a0 + 1)) 1 1).bind fun t189 => ((civil_Days.f a0 1 1).bind fun t190 => (zoneinfolaw04_CivilCycles.l0 kj3 a0 a1 a2 t188 (wrap64 (t189 - t190)) 0 1)))) = some r := by rw [if_neg (show ¬ (false = true) by decide)] at H; exact H
        clear H
        have H := H1
        clear H1
        replace H := Option.bind_eq_some_iff.mp H
        obtain ⟨t188, A110, H⟩ := H
        replace H : ((civil_Days.f (wrap64 (a0 + 1)) 1 1).bind fun t189 => ((civil_Days.f a0 1 1).bind fun t190 => (zoneinfolaw04_CivilCycles.l0 kj3 a0 a1 a2 t188 (wrap64 (t189 - t190)) 0 1))) = some r := H
        have A11 := Aside0.mk A110
        clear A110
        replace H := Option.bind_eq_some_iff.mp H
        obtain ⟨t189, A120, H⟩ := H
        replace H : ((civil_Days.f a0 1 1).bind fun t190 => (zoneinfolaw04_CivilCycles.l0 kj3 a0 a1 a2 t188 (wrap64 (t189 - t190)) 0 1)) = some r := H
        have A12 := Aside0.mk A120
        clear A120
        replace H := Option.bind_eq_some_iff.mp H
        obtain ⟨t190, A130, H⟩ := H
        replace H : (zoneinfolaw04_CivilCycles.l0 kj3 a0 a1 a2 t188 (wrap64 (t189 - t190)) 0 1) = some r := H
        have A13 := Aside0.mk A130
        clear A130
        have H' := Aside0.mk H
        clear H
        go_wp2_with (first | ((with_reducible refine gate_callee (f := 19) rfl ?_); refine goesL_ (some 28) rfl rfl Tryd.func19 (by kernel_rfl) rfl #[.int .i64 a0, .int .i64 a1, .int .i64 a2] rfl (by (try simp only [List.map_toArray, List.map_cons, List.map_nil]); first | done | rfl | (simp only [List.length_drop, List.length_take]; rfl)) ?_; (with_reducible refine (civil_Days.calls a0 a1 a2 t188 _ A11.out).mono ?_); rintro e w' ⟨rfl, ⟨nd, rfl⟩⟩; refine ⟨_, rfl, ?_⟩) | ((with_reducible refine gate_callee (f := 19) rfl ?_); refine goesL_ (some 31) rfl rfl Tryd.func19 (by kernel_rfl) rfl #[.int .i64 (wrap64 (a0 + 1)), .int .i64 1, .int .i64 1] rfl (by (try simp only [List.map_toArray, List.map_cons, List.map_nil]); first | done | rfl | (simp only [List.length_drop, List.length_take]; rfl)) ?_; (with_reducible refine (civil_Days.calls (wrap64 (a0 + 1)) 1 1 t189 _ A12.out).mono ?_); rintro e w' ⟨rfl, ⟨nd, rfl⟩⟩; refine ⟨_, rfl, ?_⟩) | ((with_reducible refine gate_callee (f := 19) rfl ?_); refine goesL_ (some 33) rfl rfl Tryd.func19 (by kernel_rfl) rfl #[.int .i64 a0, .int .i64 1, .int .i64 1] rfl (by (try simp only [List.map_toArray, List.map_cons, List.map_nil]); first | done | rfl | (simp only [List.length_drop, List.length_take]; rfl)) ?_; (with_reducible refine (civil_Days.calls a0 1 1 t190 _ A13.out).mono ?_); rintro e w' ⟨rfl, ⟨nd, rfl⟩⟩; refine ⟨_, rfl, ?_⟩))
        go_loopg [9, 10] kj3 (fun kq v9 v10 w' => ∃ (x9_2 : Int) (x10_2 : Int), v9 = .int .i64 x9_2 ∧ v10 = .int .i64 x10_2 ∧ Aside0 (zoneinfolaw04_CivilCycles.l0 kq a0 a1 a2 t188 (wrap64 (t189 - t190)) x9_2 x10_2 = some r) ∧ Aside0 (kq ≤ kj3) ∧ Drawn0 w w')
        case atStart => exact ⟨(0), (1), (by first | rfl | (simp; done) | (simp [*]; done)), (by first | rfl | (simp; done) | (simp [*]; done)), H', ⟨Nat.le_refl _⟩, by repeat (first | exact Drawn0.refl _ | apply Drawn0.step)⟩
        case round =>
          clear H'
          try clear c1
          try clear p2
          try clear c3
          try clear c6
          try clear p6
          try clear c8
          try clear c9
          try clear p2
          obtain ⟨x9_2, x10_2, rfl, rfl, HA, HK2, ⟨m2, rfl⟩⟩ := hrel
          cases gk with
          | zero => exact absurd HA.out (by simp [zoneinfolaw04_CivilCycles.l0])
          | succ k2 =>
            have H := HA.out
            clear HA
            simp only [zoneinfolaw04_CivilCycles.l0] at H
            by_cases c14 : x10_2 ≤ 12
            · rw [if_pos c14] at H
              have c14b0 : decide (x10_2 ≤ 12) = true := decide_eq_true c14
              clear c14
              replace H := Option.bind_eq_some_iff.mp H
              obtain ⟨t191, A150, H⟩ := H
              replace H : (zoneinfolaw04_CivilCycles.l0 k2 a0 a1 a2 t188 (wrap64 (t189 - t190)) (wrap64 (x9_2 + t191)) (wrap64 (x10_2 + 1))) = some r := H
              have A15 := Aside0.mk A150
              clear A150
              have H' := Aside0.mk H
              clear H
              go_wp2_with (first | ((with_reducible refine gate_callee (f := 17) rfl ?_); refine goesL_ (some 42) rfl rfl Tryd.func17 (by kernel_rfl) rfl #[.int .i64 a0, .int .i64 x10_2] rfl (by (try simp only [List.map_toArray, List.map_cons, List.map_nil]); first | done | rfl | (simp only [List.length_drop, List.length_take]; rfl)) ?_; (with_reducible refine (civil_MonthDays.calls a0 x10_2 t191 _ ?side1 A15.out).mono ?_); (case side1 => repeat (first | exact HRg.out | (with_reducible refine Kd.C_alloc ?_ _) | (with_reducible refine Kd.C_drewN ?_ _) | (with_reducible refine Kd.C_drew ?_))); rintro e w' ⟨rfl, ⟨nd, rfl⟩⟩; refine ⟨_, rfl, ?_⟩))
              go_roundg k2
              case measure => have := HJ3.out; have := HK2.out; omega
              case rel => exact ⟨(wrap64 (x9_2 + t191)), (wrap64 (x10_2 + 1)), (by first | rfl | (simp; done) | (simp [*]; done)), (by first | rfl | (simp; done) | (simp [*]; done)), H', ⟨by have := HJ3.out; have := HK2.out; omega⟩, by repeat (first | exact Drawn0.refl _ | apply Drawn0.step)⟩
            · rw [if_neg c14] at H
              have c14b0 : decide (x10_2 ≤ 12) = false := decide_eq_false c14
              clear c14
              replace H := Option.bind_eq_some_iff.mp H
              obtain ⟨t192, A160, H⟩ := H
              replace H : (if t192 = (wrap64 (t188 + 146097)) then ((civil_Weekday.f (wrap64 (t188 + 146097))).bind fun t193 => ((civil_Weekday.f t188).bind fun t194 => (if t193 = t194 then ((civil_IsLeap.f a0).bind fun t195 => (if (((wrap64 (t189 - t190)) == 366) == t195) = true then (if (((wrap64 (t189 - t190)) == 365) == (!t195)) = true then (if x9_2 = (wrap64 (t189 - t190)) then ((civil_YearDay.f a0 a1 a2).bind fun t196 => ((civil_Days.f a0 1 1).bind fun t197 => (if t196 = (wrap64 (t188 - t197)) then (some (decide (t196 < (wrap64 (t189 - t190))))) else (none)))) else (none)) else (none)) else (none))) else (none)))) else (none)) = some r := H
              have A16 := Aside0.mk A160
              clear A160
              by_cases c17 : t192 = (wrap64 (t188 + 146097))
              · rw [if_pos c17] at H
                have c17b0 : (t192 == (wrap64 (t188 + 146097))) = true := beq_iff_eq.mpr c17
                have c17b1 : (t192 != (wrap64 (t188 + 146097))) = false := bne_eq_false_iff_eq.mpr c17
                clear c17
                replace H := Option.bind_eq_some_iff.mp H
                obtain ⟨t193, A180, H⟩ := H
                replace H : ((civil_Weekday.f t188).bind fun t194 => (if t193 = t194 then ((civil_IsLeap.f a0).bind fun t195 => (if (((wrap64 (t189 - t190)) == 366) == t195) = true then (if (((wrap64 (t189 - t190)) == 365) == (!t195)) = true then (if x9_2 = (wrap64 (t189 - t190)) then ((civil_YearDay.f a0 a1 a2).bind fun t196 => ((civil_Days.f a0 1 1).bind fun t197 => (if t196 = (wrap64 (t188 - t197)) then (some (decide (t196 < (wrap64 (t189 - t190))))) else (none)))) else (none)) else (none)) else (none))) else (none))) = some r := H
                have A18 := Aside0.mk A180
                clear A180
                replace H := Option.bind_eq_some_iff.mp H
                obtain ⟨t194, A190, H⟩ := H
                replace H : (if t193 = t194 then ((civil_IsLeap.f a0).bind fun t195 => (if (((wrap64 (t189 - t190)) == 366) == t195) = true then (if (((wrap64 (t189 - t190)) == 365) == (!t195)) = true then (if x9_2 = (wrap64 (t189 - t190)) then ((civil_YearDay.f a0 a1 a2).bind fun t196 => ((civil_Days.f a0 1 1).bind fun t197 => (if t196 = (wrap64 (t188 - t197)) then (some (decide (t196 < (wrap64 (t189 - t190))))) else (none)))) else (none)) else (none)) else (none))) else (none)) = some r := H
                have A19 := Aside0.mk A190
                clear A190
                by_cases c20 : t193 = t194
                · rw [if_pos c20] at H
                  have c20b0 : (t193 == t194) = true := beq_iff_eq.mpr c20
                  have c20b1 : (t193 != t194) = false := bne_eq_false_iff_eq.mpr c20
                  clear c20
                  replace H := Option.bind_eq_some_iff.mp H
                  obtain ⟨t195, A210, H⟩ := H
                  replace H : (if (((wrap64 (t189 - t190)) == 366) == t195) = true then (if (((wrap64 (t189 - t190)) == 365) == (!t195)) = true then (if x9_2 = (wrap64 (t189 - t190)) then ((civil_YearDay.f a0 a1 a2).bind fun t196 => ((civil_Days.f a0 1 1).bind fun t197 => (if t196 = (wrap64 (t188 - t197)) then (some (decide (t196 < (wrap64 (t189 - t190))))) else (none)))) else (none)) else (none)) else (none)) = some r := H
                  have A21 := Aside0.mk A210
                  clear A210
                  by_cases c22 : (((wrap64 (t189 - t190)) == 366) == t195) = true
                  · rw [if_pos c22] at H
                    have c22b0 : (((wrap64 (t189 - t190)) == 366) == t195) = true := c22
                    (try (have c22b1 : decide (((wrap64 (t189 - t190)) == 366) = t195) = true := by simpa using c22))
                    (try (have c22b2 : (((wrap64 (t189 - t190)) == 366) == t195) = true := by simpa using c22))
                    clear c22
                    by_cases c23 : (((wrap64 (t189 - t190)) == 365) == (!t195)) = true
                    · rw [if_pos c23] at H
                      have c23b0 : (((wrap64 (t189 - t190)) == 365) == (!t195)) = true := c23
                      (try (have c23b1 : decide (((wrap64 (t189 - t190)) == 365) = (!t195)) = true := by simpa using c23))
                      (try (have c23b2 : (((wrap64 (t189 - t190)) == 365) == (!t195)) = true := by simpa using c23))
                      clear c23
                      by_cases c24 : x9_2 = (wrap64 (t189 - t190))
                      · rw [if_pos c24] at H
                        have c24b0 : (x9_2 == (wrap64 (t189 - t190))) = true := beq_iff_eq.mpr c24
                        have c24b1 : (x9_2 != (wrap64 (t189 - t190))) = false := bne_eq_false_iff_eq.mpr c24
                        clear c24
                        replace H := Option.bind_eq_some_iff.mp H
                        obtain ⟨t196, A250, H⟩ := H
                        replace H : ((civil_Days.f a0 1 1).bind fun t197 => (if t196 = (wrap64 (t188 - t197)) then (some (decide (t196 < (wrap64 (t189 - t190))))) else (none))) = some r := H
                        have A25 := Aside0.mk A250
                        clear A250
                        replace H := Option.bind_eq_some_iff.mp H
                        obtain ⟨t197, A260, H⟩ := H
                        replace H : (if t196 = (wrap64 (t188 - t197)) then (some (decide (t196 < (wrap64 (t189 - t190))))) else (none)) = some r := H
                        have A26 := Aside0.mk A260
                        clear A260
                        by_cases c27 : t196 = (wrap64 (t188 - t197))
                        · rw [if_pos c27] at H
                          have c27b0 : (t196 == (wrap64 (t188 - t197))) = true := beq_iff_eq.mpr c27
                          have c27b1 : (t196 != (wrap64 (t188 - t197))) = false := bne_eq_false_iff_eq.mpr c27
                          clear c27
                          obtain rfl := Option.some.inj H
                          go_wp2_with (first | (go_at_call 19; (with_reducible refine (civil_Days.calls (wrap64 (a0 + 400)) a1 a2 t192 _ A16.out).mono ?_); rintro e w' ⟨rfl, ⟨nd, rfl⟩⟩) | (go_at_call 12; (with_reducible refine (civil_Weekday.calls (wrap64 (t188 + 146097)) t193 _ A18.out).mono ?_); rintro e w' ⟨rfl, ⟨nd, rfl⟩⟩) | (go_at_call 12; (with_reducible refine (civil_Weekday.calls t188 t194 _ A19.out).mono ?_); rintro e w' ⟨rfl, ⟨nd, rfl⟩⟩) | (go_at_call 15; (with_reducible refine (civil_IsLeap.calls a0 t195 _ A21.out).mono ?_); rintro e w' ⟨rfl, ⟨nd, rfl⟩⟩) | (go_at_call 21; (with_reducible refine (civil_YearDay.calls a0 a1 a2 t196 _ A25.out).mono ?_); rintro e w' ⟨rfl, ⟨nd, rfl⟩⟩) | (go_at_call 19; (with_reducible refine (civil_Days.calls a0 1 1 t197 _ A26.out).mono ?_); rintro e w' ⟨rfl, ⟨nd, rfl⟩⟩))
                          go_ret
                          exact ⟨by first | rfl | (simp; done) | (simp [*]; done), by repeat (first | exact Drawn0.refl _ | apply Drawn0.step)⟩
                        · rw [if_neg c27] at H
                          exact absurd H (by simp)
                      · rw [if_neg c24] at H
                        exact absurd H (by simp)
                    · rw [if_neg c23] at H
                      exact absurd H (by simp)
                  · rw [if_neg c22] at H
                    exact absurd H (by simp)
                · rw [if_neg c20] at H
                  exact absurd H (by simp)
              · rw [if_neg c17] at H
                exact absurd H (by simp)

/-- THE ONE PURE STATEMENT of zoneinfolaw04_CivilCycles: yours. -/
def zoneinfolaw04_CivilCycles.Pure : Prop := ∀ (a0 : Int) (a1 : Int) (a2 : Int), (Lit.int .i64 a0).wf = true → (Lit.int .i64 a1).wf = true → (Lit.int .i64 a2).wf = true → ∃ k, zoneinfolaw04_CivilCycles.f k a0 a1 a2 = some true
theorem zoneinfolaw04_CivilCycles.walk (P : zoneinfolaw04_CivilCycles.Pure) (a0 : Int) (a1 : Int) (a2 : Int) (w : World) (hgl : GL w) (w0 : (Lit.int .i64 a0).wf = true) (w1 : (Lit.int .i64 a1).wf = true) (w2 : (Lit.int .i64 a2).wf = true) :
    Calls Tryd.prog 6 #[.int .i64 a0, .int .i64 a1, .int .i64 a2] w fun e w' => e = .returned (.bool true) ∧ Below w.heap.size w w' := by
  obtain ⟨k, h⟩ := P a0 a1 a2 w0 w1 w2
  refine (zoneinfolaw04_CivilCycles.calls k a0 a1 a2 true w hgl h).mono ?_
  rintro e w' ⟨rfl, hd⟩
  exact ⟨rfl, hd.below⟩

end Go.Proofs.YtnmifmjlcmgoeaaDoor.G
