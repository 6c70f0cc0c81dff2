/- Written by a program of this session for this seat: contracts of the functions that its laws reach, or the row of a law over its plain part. -/
import Derived.Test.YtnmifmjlcmgoeaaDoorGx0
import Derived.Test.YtnmifmjlcmgoeaaDoorGx5
import Derived.Test.YtnmifmjlcmgoeaaDoorGx6
import Derived.Test.YtnmifmjlcmgoeaaDoorGx7
import Derived.Test.YtnmifmjlcmgoeaaDoorGx8
import Derived.Test.YtnmifmjlcmgoeaaDoorGx17
namespace Go.Proofs.YtnmifmjlcmgoeaaDoor.G
open Go.RowKit Go.Proofs.YtnmifmjlcmgoeaaDoorW.PrintWords Go.Proofs.YtnmifmjlcmgoeaaDoorW.PrintLast Go.Proofs.YtnmifmjlcmgoeaaDoorW.PrintMore
attribute [local go_sem] max2_int min2_int max_two min_two max_three min_three max_four min_four   -- for this text's walks alone
set_option linter.unusedVariables false
set_option linter.unusedSimpArgs false

/-! ### zoneinfolaw04_CivilMonotone: function 7 -/
def zoneinfolaw04_CivilMonotone.j0 : Nat → Int → Int → Int → Int → Int → Bool → Option (Bool)
  | 0, _, _, _, _, _, _ => none
  | k + 1, x0, x1, x2, x3, x4, x33 => if x33 = true then ((zoneinfolaw04_awake.f).bind fun t201 => (some t201)) else ((civil_Days.f x0 x1 x2).bind fun t202 => ((civil_Days.f x0 x3 x4).bind fun t203 => (if x1 < x3 then (if ((decide (t202 < t203)) == true) = true then ((civil_YearDay.f x0 x3 x4).bind fun t204 => ((civil_YearDay.f x0 x1 x2).bind fun t205 => (if (wrap64 (t203 - t202)) = (wrap64 (t204 - t205)) then ((civil_Days.f (wrap64 (x0 + 1)) 1 1).bind fun t206 => (some (decide (t206 > t202)))) else (none)))) else (none)) else (if x1 = x3 then (if ((decide (t202 < t203)) == (decide (x2 < x4))) = true then ((civil_YearDay.f x0 x3 x4).bind fun t207 => ((civil_YearDay.f x0 x1 x2).bind fun t208 => (if (wrap64 (t203 - t202)) = (wrap64 (t207 - t208)) then ((civil_Days.f (wrap64 (x0 + 1)) 1 1).bind fun t209 => (some (decide (t209 > t202)))) else (none)))) else (none)) else (if ((decide (t202 < t203)) == false) = true then ((civil_YearDay.f x0 x3 x4).bind fun t210 => ((civil_YearDay.f x0 x1 x2).bind fun t211 => (if (wrap64 (t203 - t202)) = (wrap64 (t210 - t211)) then ((civil_Days.f (wrap64 (x0 + 1)) 1 1).bind fun t212 => (some (decide (t212 > t202)))) else (none)))) else (none))))))
def zoneinfolaw04_CivilMonotone.f (k : Nat) (a0 : Int) (a1 : Int) (a2 : Int) (a3 : Int) (a4 : Int) : Option (Bool) := (zoneinfolaw04_awake.f).bind fun t198 => (if t198 = true then ((zoneinforef04_Valid.f k a0 a1 a2).bind fun t199 => (if t199 = true then ((zoneinforef04_Valid.f k a0 a3 a4).bind fun t200 => (if t200 = true then (zoneinfolaw04_CivilMonotone.j0 k a0 a1 a2 a3 a4 (decide (a0 ≥ 1099511627776))) else (zoneinfolaw04_CivilMonotone.j0 k a0 a1 a2 a3 a4 true))) else (zoneinfolaw04_CivilMonotone.j0 k a0 a1 a2 a3 a4 true))) else (zoneinfolaw04_CivilMonotone.j0 k a0 a1 a2 a3 a4 true))
theorem zoneinfolaw04_CivilMonotone.mono_l : ∀ k, (∀ y0 y1 y2 y3 y4 y5, LeO (zoneinfolaw04_CivilMonotone.j0 k y0 y1 y2 y3 y4 y5) (zoneinfolaw04_CivilMonotone.j0 (k + 1) y0 y1 y2 y3 y4 y5))
  | 0 => fun _ _ _ _ _ _ r h => by simp [zoneinfolaw04_CivilMonotone.j0] at h
  | k + 1 => by
    have ih0 := zoneinfolaw04_CivilMonotone.mono_l k
    · intro y0 y1 y2 y3 y4 y5
      unfold zoneinfolaw04_CivilMonotone.j0
      repeat' first
      | (with_reducible exact ih0 _ _ _ _ _ _)
      | (with_reducible exact zoneinforef04_Valid.mono _ _ _ _)
      | (with_reducible exact LeO.refl _)
      | (with_reducible exact LeO.none _)
      | (with_reducible refine LeO.ite ?_ ?_)
      | (with_reducible refine LeO.bind ?_ (fun _ => ?_))
      | exact ih0 _ _ _ _ _ _
      | exact zoneinforef04_Valid.mono _ _ _ _
      | exact LeO.none _
      | refine LeO.ite ?_ ?_
      | refine LeO.bind ?_ (fun _ => ?_)
theorem zoneinfolaw04_CivilMonotone.mono : ∀ a0 a1 a2 a3 a4 k, LeO (zoneinfolaw04_CivilMonotone.f k a0 a1 a2 a3 a4) (zoneinfolaw04_CivilMonotone.f (k + 1) a0 a1 a2 a3 a4) := by
  intro a0 a1 a2 a3 a4 k
  have ih0 := zoneinfolaw04_CivilMonotone.mono_l k
  unfold zoneinfolaw04_CivilMonotone.f
  repeat' first
      | (with_reducible exact ih0 _ _ _ _ _ _)
      | (with_reducible exact zoneinforef04_Valid.mono _ _ _ _)
      | (with_reducible exact LeO.refl _)
      | (with_reducible exact LeO.none _)
      | (with_reducible refine LeO.ite ?_ ?_)
      | (with_reducible refine LeO.bind ?_ (fun _ => ?_))
      | exact ih0 _ _ _ _ _ _
      | exact zoneinforef04_Valid.mono _ _ _ _
      | exact LeO.none _
      | refine LeO.ite ?_ ?_
      | refine LeO.bind ?_ (fun _ => ?_)
set_option maxHeartbeats 8000000 in
set_option maxRecDepth 100000 in
theorem zoneinfolaw04_CivilMonotone.calls (k : Nat) (a0 : Int) (a1 : Int) (a2 : Int) (a3 : Int) (a4 : Int) (r : Bool) (w : World) (hrg : GL w) (h : zoneinfolaw04_CivilMonotone.f k a0 a1 a2 a3 a4 = some r) :
    Calls Tryd.prog 7 #[.int .i64 a0, .int .i64 a1, .int .i64 a2, .int .i64 a3, .int .i64 a4] w fun e w' => e = .returned (.bool r) ∧ Drawn0 w w' := by
  have HRg := Aside0.mk hrg
  clear hrg
  have H : ((zoneinfolaw04_awake.f).bind fun t198 => (if t198 = true then ((zoneinforef04_Valid.f k a0 a1 a2).bind fun t199 => (if t199 = true then ((zoneinforef04_Valid.f k a0 a3 a4).bind fun t200 => (if t200 = true then (zoneinfolaw04_CivilMonotone.j0 k a0 a1 a2 a3 a4 (decide (a0 ≥ 1099511627776))) else (zoneinfolaw04_CivilMonotone.j0 k a0 a1 a2 a3 a4 true))) else (zoneinfolaw04_CivilMonotone.j0 k a0 a1 a2 a3 a4 true))) else (zoneinfolaw04_CivilMonotone.j0 k a0 a1 a2 a3 a4 true))) = some r := h
  clear h
  have HC6 := Aside0.mk H
  clear H
  go_enter Tryd.func7, Tryd.ntmps7
  go_upto_region 1 with (fail)
  go_cut [33] (fun v33 wc => ∃ (kq : Nat) (x33_5 : Bool), v33 = .bool x33_5 ∧ Aside0 (zoneinfolaw04_CivilMonotone.j0 kq a0 a1 a2 a3 a4 x33_5 = some r) ∧ Aside0 (kq ≤ k) ∧ Drawn0 w wc)
  case first =>
    have H := HC6.out
    clear HC6
    replace H := Option.bind_eq_some_iff.mp H
    obtain ⟨t198, A70, H⟩ := H
    replace H : (if t198 = true then ((zoneinforef04_Valid.f k a0 a1 a2).bind fun t199 => (if t199 = true then ((zoneinforef04_Valid.f k a0 a3 a4).bind fun t200 => (if t200 = true then (zoneinfolaw04_CivilMonotone.j0 k a0 a1 a2 a3 a4 (decide (a0 ≥ 1099511627776))) else (zoneinfolaw04_CivilMonotone.j0 k a0 a1 a2 a3 a4 true))) else (zoneinfolaw04_CivilMonotone.j0 k a0 a1 a2 a3 a4 true))) else (zoneinfolaw04_CivilMonotone.j0 k a0 a1 a2 a3 a4 true)) = some r := H
    have A7 := Aside0.mk A70
    clear A70
    by_cases c8 : t198 = true
    · subst c8
      have H1 : ((zoneinforef04_Valid.f k a0 a1 a2).bind fun t199 => (if t199 = true then ((zoneinforef04_Valid.f k a0 a3 a4).bind fun t200 => (if t200 = true then (zoneinfolaw04_CivilMonotone.j0 k a0 a1 a2 a3 a4 (decide (a0 ≥ 1099511627776))) else (zoneinfolaw04_CivilMonotone.j0 k a0 a1 a2 a3 a4 true))) else (zoneinfolaw04_CivilMonotone.j0 k a0 a1 a2 a3 a4 true))) = some r := by rw [if_pos rfl] at H; exact H
      clear H
      have H := H1
      clear H1
      replace H := Option.bind_eq_some_iff.mp H
      obtain ⟨t199, A90, H⟩ := H
      replace H : (if t199 = true then ((zoneinforef04_Valid.f k a0 a3 a4).bind fun t200 => (if t200 = true then (zoneinfolaw04_CivilMonotone.j0 k a0 a1 a2 a3 a4 (decide (a0 ≥ 1099511627776))) else (zoneinfolaw04_CivilMonotone.j0 k a0 a1 a2 a3 a4 true))) else (zoneinfolaw04_CivilMonotone.j0 k a0 a1 a2 a3 a4 true)) = some r := H
      have A9 := Aside0.mk A90
      clear A90
      by_cases c10 : t199 = true
      · subst c10
        have H1 : ((zoneinforef04_Valid.f k a0 a3 a4).bind fun t200 => (if t200 = true then (zoneinfolaw04_CivilMonotone.j0 k a0 a1 a2 a3 a4 (decide (a0 ≥ 1099511627776))) else (zoneinfolaw04_CivilMonotone.j0 k a0 a1 a2 a3 a4 true))) = some r := by rw [if_pos rfl] at H; exact H
        clear H
        have H := H1
        clear H1
        replace H := Option.bind_eq_some_iff.mp H
        obtain ⟨t200, A110, H⟩ := H
        replace H : (if t200 = true then (zoneinfolaw04_CivilMonotone.j0 k a0 a1 a2 a3 a4 (decide (a0 ≥ 1099511627776))) else (zoneinfolaw04_CivilMonotone.j0 k a0 a1 a2 a3 a4 true)) = some r := H
        have A11 := Aside0.mk A110
        clear A110
        by_cases c12 : t200 = true
        · subst c12
          have H1 : (zoneinfolaw04_CivilMonotone.j0 k a0 a1 a2 a3 a4 (decide (a0 ≥ 1099511627776))) = some r := by rw [if_pos rfl] at H; exact H
          clear H
          have H := H1
          clear H1
          have H' := Aside0.mk H
          clear H
          go_wp2_with (first | (go_at_call 8; (with_reducible refine (zoneinfolaw04_awake.calls  true _ ?side1 A7.out).mono ?_); (case side1 => repeat (first | exact HRg.out | (with_reducible refine Kd.C_alloc ?_ _) | (with_reducible refine Kd.C_drewN ?_ _) | (with_reducible refine Kd.C_drew ?_))); rintro e w' ⟨rfl, ⟨nd, rfl⟩⟩) | (go_at_call 14; (with_reducible refine (zoneinforef04_Valid.calls k a0 a1 a2 true _ A9.out).mono ?_); rintro e w' ⟨rfl, ⟨nd, rfl⟩⟩) | (go_at_call 14; (with_reducible refine (zoneinforef04_Valid.calls k a0 a3 a4 true _ A11.out).mono ?_); rintro e w' ⟨rfl, ⟨nd, rfl⟩⟩))
          go_meet
          case rel => exact ⟨_, (decide (a0 ≥ 1099511627776)), (by first | rfl | (simp; done) | (simp [*]; done)), H', ⟨by first | omega | exact Nat.le_refl _⟩, by repeat (first | exact Drawn0.refl _ | apply Drawn0.step)⟩
        · replace c12 := Bool.eq_false_iff.mpr c12
          subst c12
          have H1 : (zoneinfolaw04_CivilMonotone.j0 k a0 a1 a2 a3 a4 true) = some r := by rw [if_neg (show ¬ (false = true) by decide)] at H; exact H
          clear H
          have H := H1
          clear H1
          have H' := Aside0.mk H
          clear H
          go_wp2_with (first | (go_at_call 8; (with_reducible refine (zoneinfolaw04_awake.calls  true _ ?side1 A7.out).mono ?_); (case side1 => repeat (first | exact HRg.out | (with_reducible refine Kd.C_alloc ?_ _) | (with_reducible refine Kd.C_drewN ?_ _) | (with_reducible refine Kd.C_drew ?_))); rintro e w' ⟨rfl, ⟨nd, rfl⟩⟩) | (go_at_call 14; (with_reducible refine (zoneinforef04_Valid.calls k a0 a1 a2 true _ A9.out).mono ?_); rintro e w' ⟨rfl, ⟨nd, rfl⟩⟩) | (go_at_call 14; (with_reducible refine (zoneinforef04_Valid.calls k a0 a3 a4 false _ A11.out).mono ?_); rintro e w' ⟨rfl, ⟨nd, rfl⟩⟩))
          go_meet
          case rel => exact ⟨_, (true), (by first | rfl | (simp; done) | (simp [*]; done)), H', ⟨by first | omega | exact Nat.le_refl _⟩, by repeat (first | exact Drawn0.refl _ | apply Drawn0.step)⟩
      · replace c10 := Bool.eq_false_iff.mpr c10
        subst c10
        have H1 : (zoneinfolaw04_CivilMonotone.j0 k a0 a1 a2 a3 a4 true) = some r := by rw [if_neg (show ¬ (false = true) by decide)] at H; exact H
        clear H
        have H := H1
        clear H1
        have H' := Aside0.mk H
        clear H
        go_wp2_with (first | (go_at_call 8; (with_reducible refine (zoneinfolaw04_awake.calls  true _ ?side1 A7.out).mono ?_); (case side1 => repeat (first | exact HRg.out | (with_reducible refine Kd.C_alloc ?_ _) | (with_reducible refine Kd.C_drewN ?_ _) | (with_reducible refine Kd.C_drew ?_))); rintro e w' ⟨rfl, ⟨nd, rfl⟩⟩) | (go_at_call 14; (with_reducible refine (zoneinforef04_Valid.calls k a0 a1 a2 false _ A9.out).mono ?_); rintro e w' ⟨rfl, ⟨nd, rfl⟩⟩))
        go_meet
        case rel => exact ⟨_, (true), (by first | rfl | (simp; done) | (simp [*]; done)), H', ⟨by first | omega | exact Nat.le_refl _⟩, by repeat (first | exact Drawn0.refl _ | apply Drawn0.step)⟩
    · replace c8 := Bool.eq_false_iff.mpr c8
      subst c8
      have H1 : (zoneinfolaw04_CivilMonotone.j0 k a0 a1 a2 a3 a4 true) = some r := by rw [if_neg (show ¬ (false = true) by decide)] at H; exact H
      clear H
      have H := H1
      clear H1
      have H' := Aside0.mk H
      clear H
      go_wp2_with (first | (go_at_call 8; (with_reducible refine (zoneinfolaw04_awake.calls  false _ ?side1 A7.out).mono ?_); (case side1 => repeat (first | exact HRg.out | (with_reducible refine Kd.C_alloc ?_ _) | (with_reducible refine Kd.C_drewN ?_ _) | (with_reducible refine Kd.C_drew ?_))); rintro e w' ⟨rfl, ⟨nd, rfl⟩⟩))
      go_meet
      case rel => exact ⟨_, (true), (by first | rfl | (simp; done) | (simp [*]; done)), H', ⟨by first | omega | exact Nat.le_refl _⟩, by repeat (first | exact Drawn0.refl _ | apply Drawn0.step)⟩
  case rest =>
    clear HC6
    try clear c1
    try clear p2
    try clear c7
    try clear c8
    try clear c10
    try clear c12
    obtain ⟨kq, x33_5, rfl, HA, HJ5, ⟨mc5, rfl⟩⟩ := hcut
    cases kq with
    | zero => exact absurd HA.out (by simp [zoneinfolaw04_CivilMonotone.j0])
    | succ kj5 =>
      have H := HA.out
      clear HA
      simp only [zoneinfolaw04_CivilMonotone.j0] at H
      by_cases c13 : x33_5 = true
      · subst c13
        have H1 : ((zoneinfolaw04_awake.f).bind fun t201 => (some t201)) = some r := by rw [if_pos rfl] at H; exact H
        clear H
        have H := H1
        clear H1
        replace H := Option.bind_eq_some_iff.mp H
        obtain ⟨t201, A140, H⟩ := H
        replace H : (some t201) = some r := H
        have A14 := Aside0.mk A140
        clear A140
        obtain rfl := Option.some.inj H
        go_wp2_with (first | ((with_reducible refine gate_callee (f := 8) rfl ?_); refine goesL_ (some 34) rfl rfl Tryd.func8 (by kernel_rfl) rfl #[] rfl (by (try simp only [List.map_toArray, List.map_cons, List.map_nil]); first | done | rfl | (simp only [List.length_drop, List.length_take]; rfl)) ?_; (with_reducible refine (zoneinfolaw04_awake.calls  t201 _ ?side1 A14.out).mono ?_); (case side1 => repeat (first | exact HRg.out | (with_reducible refine Kd.C_alloc ?_ _) | (with_reducible refine Kd.C_drewN ?_ _) | (with_reducible refine Kd.C_drew ?_))); rintro e w' ⟨rfl, ⟨nd, rfl⟩⟩; refine ⟨_, rfl, ?_⟩))
        go_ret
        exact ⟨by first | rfl | (simp; done) | (simp [*]; done), by repeat (first | exact Drawn0.refl _ | apply Drawn0.step)⟩
      · replace c13 := Bool.eq_false_iff.mpr c13
        subst c13
        have H1 : ((civil_Days.f a0 a1 a2).bind fun t202 => ((civil_Days.f a0 a3 a4).bind fun t203 => (if a1 < a3 then (if ((decide (t202 < t203)) == true) = true then ((civil_YearDay.f a0 a3 a4).bind fun t204 => ((civil_YearDay.f a0 a1 a2).bind fun t205 => (if (wrap64 (t203 - t202)) = (wrap64 (t204 - t205)) then ((civil_Days.f (wrap64 (a0 + 1)) 1 1).bind fun t206 => (some (decide (t206 > t202)))) else (none)))) else (none)) else (if a1 = a3 then (if ((decide (t202 < t203)) == (decide (a2 < a4))) = true then ((civil_YearDay.f a0 a3 a4).bind fun t207 => ((civil_YearDay.f a0 a1 a2).bind fun t208 => (if (wrap64 (t203 - t202)) = (wrap64 (t207 - t208)) then ((civil_Days.f (wrap64 (a0 + 1)) 1 1).bind fun t209 => (some (decide (t209 > t202)))) else (none)))) else (none)) else (if ((decide (t202 < t203)) == false) = true then ((civil_YearDay.f a0 a3 a4).bind fun t210 => ((civil_YearDay.f a0 a1 a2).bind fun t211 => (if (wrap64 (t203 - t202)) = (wrap64 (t210 - t211)) then ((civil_Days.f (wrap64 (a0 + 1)) 1 1).bind fun t212 => (some (decide (t212 > t202)))) else (none)))) else (none)))))) = some r := by rw [if_neg (show ¬ (false = true) by decide)] at H; exact H
        clear H
        have H := H1
        clear H1
        replace H := Option.bind_eq_some_iff.mp H
        obtain ⟨t202, A150, H⟩ := H
        replace H : ((civil_Days.f a0 a3 a4).bind fun t203 => (if a1 < a3 then (if ((decide (t202 < t203)) == true) = true then ((civil_YearDay.f a0 a3 a4).bind fun t204 => ((civil_YearDay.f a0 a1 a2).bind fun t205 => (if (wrap64 (t203 - t202)) = (wrap64 (t204 - t205)) then ((civil_Days.f (wrap64 (a0 + 1)) 1 1).bind fun t206 => (some (decide (t206 > t202)))) else (none)))) else (none)) else (if a1 = a3 then (if ((decide (t202 < t203)) == (decide (a2 < a4))) = true then ((civil_YearDay.f a0 a3 a4).bind fun t207 => ((civil_YearDay.f a0 a1 a2).bind fun t208 => (if (wrap64 (t203 - t202)) = (wrap64 (t207 - t208)) then ((civil_Days.f (wrap64 (a0 + 1)) 1 1).bind fun t209 => (some (decide (t209 > t202)))) else (none)))) else (none)) else (if ((decide (t202 < t203)) == false) = true then ((civil_YearDay.f a0 a3 a4).bind fun t210 => ((civil_YearDay.f a0 a1 a2).bind fun t211 => (if (wrap64 (t203 - t202)) = (wrap64 (t210 - t211)) then ((civil_Days.f (wrap64 (a0 + 1)) 1 1).bind fun t212 => (some (decide (t212 > t202)))) else (none)))) else (none))))) = some r := H
        have A15 := Aside0.mk A150
        clear A150
        replace H := Option.bind_eq_some_iff.mp H
        obtain ⟨t203, A160, H⟩ := H
        replace H : (if a1 < a3 then (if ((decide (t202 < t203)) == true) = true then ((civil_YearDay.f a0 a3 a4).bind fun t204 => ((civil_YearDay.f a0 a1 a2).bind fun t205 => (if (wrap64 (t203 - t202)) = (wrap64 (t204 - t205)) then ((civil_Days.f (wrap64 (a0 + 1)) 1 1).bind fun t206 => (some (decide (t206 > t202)))) else (none)))) else (none)) else (if a1 = a3 then (if ((decide (t202 < t203)) == (decide (a2 < a4))) = true then ((civil_YearDay.f a0 a3 a4).bind fun t207 => ((civil_YearDay.f a0 a1 a2).bind fun t208 => (if (wrap64 (t203 - t202)) = (wrap64 (t207 - t208)) then ((civil_Days.f (wrap64 (a0 + 1)) 1 1).bind fun t209 => (some (decide (t209 > t202)))) else (none)))) else (none)) else (if ((decide (t202 < t203)) == false) = true then ((civil_YearDay.f a0 a3 a4).bind fun t210 => ((civil_YearDay.f a0 a1 a2).bind fun t211 => (if (wrap64 (t203 - t202)) = (wrap64 (t210 - t211)) then ((civil_Days.f (wrap64 (a0 + 1)) 1 1).bind fun t212 => (some (decide (t212 > t202)))) else (none)))) else (none)))) = some r := H
        have A16 := Aside0.mk A160
        clear A160
        by_cases c17 : a1 < a3
        · rw [if_pos c17] at H
          have c17b0 : decide (a1 < a3) = true := decide_eq_true c17
          clear c17
          by_cases c18 : ((decide (t202 < t203)) == true) = true
          · rw [if_pos c18] at H
            have c18b0 : ((decide (t202 < t203)) == true) = true := c18
            (try (have c18b1 : decide ((decide (t202 < t203)) = true) = true := by simpa using c18))
            (try (have c18b2 : ((decide (t202 < t203)) == true) = true := by simpa using c18))
            clear c18
            replace H := Option.bind_eq_some_iff.mp H
            obtain ⟨t204, A190, H⟩ := H
            replace H : ((civil_YearDay.f a0 a1 a2).bind fun t205 => (if (wrap64 (t203 - t202)) = (wrap64 (t204 - t205)) then ((civil_Days.f (wrap64 (a0 + 1)) 1 1).bind fun t206 => (some (decide (t206 > t202)))) else (none))) = some r := H
            have A19 := Aside0.mk A190
            clear A190
            replace H := Option.bind_eq_some_iff.mp H
            obtain ⟨t205, A200, H⟩ := H
            replace H : (if (wrap64 (t203 - t202)) = (wrap64 (t204 - t205)) then ((civil_Days.f (wrap64 (a0 + 1)) 1 1).bind fun t206 => (some (decide (t206 > t202)))) else (none)) = some r := H
            have A20 := Aside0.mk A200
            clear A200
            by_cases c21 : (wrap64 (t203 - t202)) = (wrap64 (t204 - t205))
            · rw [if_pos c21] at H
              have c21b0 : ((wrap64 (t203 - t202)) == (wrap64 (t204 - t205))) = true := beq_iff_eq.mpr c21
              have c21b1 : ((wrap64 (t203 - t202)) != (wrap64 (t204 - t205))) = false := bne_eq_false_iff_eq.mpr c21
              clear c21
              replace H := Option.bind_eq_some_iff.mp H
              obtain ⟨t206, A220, H⟩ := H
              replace H : (some (decide (t206 > t202))) = some r := H
              have A22 := Aside0.mk A220
              clear A220
              obtain rfl := Option.some.inj H
              go_wp2_with (first | ((with_reducible refine gate_callee (f := 19) rfl ?_); refine goesL_ (some 38) rfl rfl Tryd.func19 (by kernel_rfl) rfl #[.int .i64 a0, .int .i64 a1, .int .i64 a2] rfl (by (try simp only [List.map_toArray, List.map_cons, List.map_nil]); first | done | rfl | (simp only [List.length_drop, List.length_take]; rfl)) ?_; (with_reducible refine (civil_Days.calls a0 a1 a2 t202 _ A15.out).mono ?_); rintro e w' ⟨rfl, ⟨nd, rfl⟩⟩; refine ⟨_, rfl, ?_⟩) | ((with_reducible refine gate_callee (f := 19) rfl ?_); refine goesL_ (some 42) rfl rfl Tryd.func19 (by kernel_rfl) rfl #[.int .i64 a0, .int .i64 a3, .int .i64 a4] rfl (by (try simp only [List.map_toArray, List.map_cons, List.map_nil]); first | done | rfl | (simp only [List.length_drop, List.length_take]; rfl)) ?_; (with_reducible refine (civil_Days.calls a0 a3 a4 t203 _ A16.out).mono ?_); rintro e w' ⟨rfl, ⟨nd, rfl⟩⟩; refine ⟨_, rfl, ?_⟩) | (go_at_call 21; (with_reducible refine (civil_YearDay.calls a0 a3 a4 t204 _ A19.out).mono ?_); rintro e w' ⟨rfl, ⟨nd, rfl⟩⟩) | (go_at_call 21; (with_reducible refine (civil_YearDay.calls a0 a1 a2 t205 _ A20.out).mono ?_); rintro e w' ⟨rfl, ⟨nd, rfl⟩⟩) | (go_at_call 19; (with_reducible refine (civil_Days.calls (wrap64 (a0 + 1)) 1 1 t206 _ A22.out).mono ?_); rintro e w' ⟨rfl, ⟨nd, rfl⟩⟩))
              go_ret
              exact ⟨by first | rfl | (simp; done) | (simp [*]; done), by repeat (first | exact Drawn0.refl _ | apply Drawn0.step)⟩
            · rw [if_neg c21] at H
              exact absurd H (by simp)
          · rw [if_neg c18] at H
            exact absurd H (by simp)
        · rw [if_neg c17] at H
          have c17b0 : decide (a1 < a3) = false := decide_eq_false c17
          clear c17
          by_cases c23 : a1 = a3
          · rw [if_pos c23] at H
            have c23b0 : (a1 == a3) = true := beq_iff_eq.mpr c23
            have c23b1 : (a1 != a3) = false := bne_eq_false_iff_eq.mpr c23
            clear c23
            by_cases c24 : ((decide (t202 < t203)) == (decide (a2 < a4))) = true
            · rw [if_pos c24] at H
              have c24b0 : ((decide (t202 < t203)) == (decide (a2 < a4))) = true := c24
              (try (have c24b1 : decide ((decide (t202 < t203)) = (decide (a2 < a4))) = true := by simpa using c24))
              (try (have c24b2 : ((decide (t202 < t203)) == (decide (a2 < a4))) = true := by simpa using c24))
              clear c24
              replace H := Option.bind_eq_some_iff.mp H
              obtain ⟨t207, A250, H⟩ := H
              replace H : ((civil_YearDay.f a0 a1 a2).bind fun t208 => (if (wrap64 (t203 - t202)) = (wrap64 (t207 - t208)) then ((civil_Days.f (wrap64 (a0 + 1)) 1 1).bind fun t209 => (some (decide (t209 > t202)))) else (none))) = some r := H
              have A25 := Aside0.mk A250
              clear A250
              replace H := Option.bind_eq_some_iff.mp H
              obtain ⟨t208, A260, H⟩ := H
              replace H : (if (wrap64 (t203 - t202)) = (wrap64 (t207 - t208)) then ((civil_Days.f (wrap64 (a0 + 1)) 1 1).bind fun t209 => (some (decide (t209 > t202)))) else (none)) = some r := H
              have A26 := Aside0.mk A260
              clear A260
              by_cases c27 : (wrap64 (t203 - t202)) = (wrap64 (t207 - t208))
              · rw [if_pos c27] at H
                have c27b0 : ((wrap64 (t203 - t202)) == (wrap64 (t207 - t208))) = true := beq_iff_eq.mpr c27
                have c27b1 : ((wrap64 (t203 - t202)) != (wrap64 (t207 - t208))) = false := bne_eq_false_iff_eq.mpr c27
                clear c27
                replace H := Option.bind_eq_some_iff.mp H
                obtain ⟨t209, A280, H⟩ := H
                replace H : (some (decide (t209 > t202))) = some r := H
                have A28 := Aside0.mk A280
                clear A280
                obtain rfl := Option.some.inj H
                go_wp2_with (first | ((with_reducible refine gate_callee (f := 19) rfl ?_); refine goesL_ (some 38) rfl rfl Tryd.func19 (by kernel_rfl) rfl #[.int .i64 a0, .int .i64 a1, .int .i64 a2] rfl (by (try simp only [List.map_toArray, List.map_cons, List.map_nil]); first | done | rfl | (simp only [List.length_drop, List.length_take]; rfl)) ?_; (with_reducible refine (civil_Days.calls a0 a1 a2 t202 _ A15.out).mono ?_); rintro e w' ⟨rfl, ⟨nd, rfl⟩⟩; refine ⟨_, rfl, ?_⟩) | ((with_reducible refine gate_callee (f := 19) rfl ?_); refine goesL_ (some 42) rfl rfl Tryd.func19 (by kernel_rfl) rfl #[.int .i64 a0, .int .i64 a3, .int .i64 a4] rfl (by (try simp only [List.map_toArray, List.map_cons, List.map_nil]); first | done | rfl | (simp only [List.length_drop, List.length_take]; rfl)) ?_; (with_reducible refine (civil_Days.calls a0 a3 a4 t203 _ A16.out).mono ?_); rintro e w' ⟨rfl, ⟨nd, rfl⟩⟩; refine ⟨_, rfl, ?_⟩) | (go_at_call 21; (with_reducible refine (civil_YearDay.calls a0 a3 a4 t207 _ A25.out).mono ?_); rintro e w' ⟨rfl, ⟨nd, rfl⟩⟩) | (go_at_call 21; (with_reducible refine (civil_YearDay.calls a0 a1 a2 t208 _ A26.out).mono ?_); rintro e w' ⟨rfl, ⟨nd, rfl⟩⟩) | (go_at_call 19; (with_reducible refine (civil_Days.calls (wrap64 (a0 + 1)) 1 1 t209 _ A28.out).mono ?_); rintro e w' ⟨rfl, ⟨nd, rfl⟩⟩))
                go_ret
                exact ⟨by first | rfl | (simp; done) | (simp [*]; done), by repeat (first | exact Drawn0.refl _ | apply Drawn0.step)⟩
              · rw [if_neg c27] at H
                exact absurd H (by simp)
            · rw [if_neg c24] at H
              exact absurd H (by simp)
          · rw [if_neg c23] at H
            have c23b0 : (a1 == a3) = false := beq_eq_false_iff_ne.mpr c23
            have c23b1 : (a1 != a3) = true := bne_iff_ne.mpr c23
            by_cases c29 : ((decide (t202 < t203)) == false) = true
            · rw [if_pos c29] at H
              have c29b0 : ((decide (t202 < t203)) == false) = true := c29
              (try (have c29b1 : decide ((decide (t202 < t203)) = false) = true := by simpa using c29))
              (try (have c29b2 : ((decide (t202 < t203)) == false) = true := by simpa using c29))
              clear c29
              replace H := Option.bind_eq_some_iff.mp H
              obtain ⟨t210, A300, H⟩ := H
              replace H : ((civil_YearDay.f a0 a1 a2).bind fun t211 => (if (wrap64 (t203 - t202)) = (wrap64 (t210 - t211)) then ((civil_Days.f (wrap64 (a0 + 1)) 1 1).bind fun t212 => (some (decide (t212 > t202)))) else (none))) = some r := H
              have A30 := Aside0.mk A300
              clear A300
              replace H := Option.bind_eq_some_iff.mp H
              obtain ⟨t211, A310, H⟩ := H
              replace H : (if (wrap64 (t203 - t202)) = (wrap64 (t210 - t211)) then ((civil_Days.f (wrap64 (a0 + 1)) 1 1).bind fun t212 => (some (decide (t212 > t202)))) else (none)) = some r := H
              have A31 := Aside0.mk A310
              clear A310
              by_cases c32 : (wrap64 (t203 - t202)) = (wrap64 (t210 - t211))
              · rw [if_pos c32] at H
                have c32b0 : ((wrap64 (t203 - t202)) == (wrap64 (t210 - t211))) = true := beq_iff_eq.mpr c32
                have c32b1 : ((wrap64 (t203 - t202)) != (wrap64 (t210 - t211))) = false := bne_eq_false_iff_eq.mpr c32
                clear c32
                replace H := Option.bind_eq_some_iff.mp H
                obtain ⟨t212, A330, H⟩ := H
                replace H : (some (decide (t212 > t202))) = some r := H
                have A33 := Aside0.mk A330
                clear A330
                obtain rfl := Option.some.inj H
                go_wp2_with (first | ((with_reducible refine gate_callee (f := 19) rfl ?_); refine goesL_ (some 38) rfl rfl Tryd.func19 (by kernel_rfl) rfl #[.int .i64 a0, .int .i64 a1, .int .i64 a2] rfl (by (try simp only [List.map_toArray, List.map_cons, List.map_nil]); first | done | rfl | (simp only [List.length_drop, List.length_take]; rfl)) ?_; (with_reducible refine (civil_Days.calls a0 a1 a2 t202 _ A15.out).mono ?_); rintro e w' ⟨rfl, ⟨nd, rfl⟩⟩; refine ⟨_, rfl, ?_⟩) | ((with_reducible refine gate_callee (f := 19) rfl ?_); refine goesL_ (some 42) rfl rfl Tryd.func19 (by kernel_rfl) rfl #[.int .i64 a0, .int .i64 a3, .int .i64 a4] rfl (by (try simp only [List.map_toArray, List.map_cons, List.map_nil]); first | done | rfl | (simp only [List.length_drop, List.length_take]; rfl)) ?_; (with_reducible refine (civil_Days.calls a0 a3 a4 t203 _ A16.out).mono ?_); rintro e w' ⟨rfl, ⟨nd, rfl⟩⟩; refine ⟨_, rfl, ?_⟩) | (go_at_call 21; (with_reducible refine (civil_YearDay.calls a0 a3 a4 t210 _ A30.out).mono ?_); rintro e w' ⟨rfl, ⟨nd, rfl⟩⟩) | (go_at_call 21; (with_reducible refine (civil_YearDay.calls a0 a1 a2 t211 _ A31.out).mono ?_); rintro e w' ⟨rfl, ⟨nd, rfl⟩⟩) | (go_at_call 19; (with_reducible refine (civil_Days.calls (wrap64 (a0 + 1)) 1 1 t212 _ A33.out).mono ?_); rintro e w' ⟨rfl, ⟨nd, rfl⟩⟩))
                go_ret
                exact ⟨by first | rfl | (simp; done) | (simp [*]; done), by repeat (first | exact Drawn0.refl _ | apply Drawn0.step)⟩
              · rw [if_neg c32] at H
                exact absurd H (by simp)
            · rw [if_neg c29] at H
              exact absurd H (by simp)

/-- THE ONE PURE STATEMENT of zoneinfolaw04_CivilMonotone: yours. -/
def zoneinfolaw04_CivilMonotone.Pure : Prop := ∀ (a0 : Int) (a1 : Int) (a2 : Int) (a3 : Int) (a4 : Int), (Lit.int .i64 a0).wf = true → (Lit.int .i64 a1).wf = true → (Lit.int .i64 a2).wf = true → (Lit.int .i64 a3).wf = true → (Lit.int .i64 a4).wf = true → ∃ k, zoneinfolaw04_CivilMonotone.f k a0 a1 a2 a3 a4 = some true
theorem zoneinfolaw04_CivilMonotone.walk (P : zoneinfolaw04_CivilMonotone.Pure) (a0 : Int) (a1 : Int) (a2 : Int) (a3 : Int) (a4 : Int) (w : World) (hgl : GL w) (w0 : (Lit.int .i64 a0).wf = true) (w1 : (Lit.int .i64 a1).wf = true) (w2 : (Lit.int .i64 a2).wf = true) (w3 : (Lit.int .i64 a3).wf = true) (w4 : (Lit.int .i64 a4).wf = true) :
    Calls Tryd.prog 7 #[.int .i64 a0, .int .i64 a1, .int .i64 a2, .int .i64 a3, .int .i64 a4] w fun e w' => e = .returned (.bool true) ∧ Below w.heap.size w w' := by
  obtain ⟨k, h⟩ := P a0 a1 a2 a3 a4 w0 w1 w2 w3 w4
  refine (zoneinfolaw04_CivilMonotone.calls k a0 a1 a2 a3 a4 true w hgl h).mono ?_
  rintro e w' ⟨rfl, hd⟩
  exact ⟨rfl, hd.below⟩

end Go.Proofs.YtnmifmjlcmgoeaaDoor.G
