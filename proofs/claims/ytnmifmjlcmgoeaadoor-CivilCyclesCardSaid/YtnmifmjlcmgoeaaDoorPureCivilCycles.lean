/- The calendar repeats after 400 years, which are 146097 days, with the same weekdays; a year has 366 days exactly if it is a leap year: the plain law behind the walk. No condition. -/
import Derived.Test.YtnmifmjlcmgoeaaDoorWWords
import Derived.Test.YtnmifmjlcmgoeaaDoorWMore
import Derived.Test.YtnmifmjlcmgoeaaDoorOwn
import Derived.Test.YtnmifmjlcmgoeaaDoorGx21
import Derived.Test.YtnmifmjlcmgoeaaDoorGx7
import Derived.Test.YtnmifmjlcmgoeaaDoorBase
import Derived.Test.YtnmifmjlcmgoeaaDoorCal
import Derived.Test.YtnmifmjlcmgoeaaDoorCal2
import Derived.Test.YtnmifmjlcmgoeaaDoorCal3
import Derived.Test.YtnmifmjlcmgoeaaDoorVal
import Derived.Test.YtnmifmjlcmgoeaaDoorL04
set_option linter.unusedVariables false
namespace Go.Proofs.YtnmifmjlcmgoeaaDoor.Pure
open Go.RowKit Go.Proofs.YtnmifmjlcmgoeaaDoor.G Go.Proofs.YtnmifmjlcmgoeaaDoorW.PrintWords Go.Proofs.YtnmifmjlcmgoeaaDoorW.PrintLast Go.Proofs.YtnmifmjlcmgoeaaDoorW.PrintMore

theorem cycles_end (y m d : Int) (hy : -1099511627776 ≤ y ∧ y ≤ 1099511627375) (hd : Dt y m d) (k : Nat) :
    zoneinfolaw04_CivilCycles.l0 (k + 1) y m d (D y m d) (365 + lp y) (365 + lp y) 13 = some true := by
  have hs := Dt_small hd
  have hb : -500000000000000 ≤ D y m d ∧ D y m d ≤ 499999999000000 := by
    have f := yd_le y m hd.1 (by have := hd.2.1; omega)
    unfold D J Mz; omega
  have hY : Yr y := by unfold Yr; omega
  have hl := lp_01 y
  have b1 := yd_le y m hd.1 (by have := hd.2.1; omega)
  have fy : civil_YearDay.f y m d = some (yd y m + d - 1) := yearDay_f y m d hY hd.1 hd.2.1 (by omega)
  have in_year : yd y m + d - 1 < 365 + lp y := by
    have := (Dt_in hd).2
    have j := J_step y
    unfold D at this; omega
  simp only [zoneinfolaw04_CivilCycles.l0]
  rw [if_neg (by omega), w64 (x := y + 400) (by omega) (by omega), w64 (x := D y m d + 146097) (by omega) (by omega)]
  refine bnd (days_f (y + 400) m d (by unfold Yr; omega) hd.1 hd.2.1 (by omega)) ?_
  have hc := D_cycle y m d 1
  rw [show y + 400 * 1 = y + 400 by omega] at hc
  rw [if_pos (by omega)]
  refine bnd (weekday_f (D y m d + 146097) (by omega)) ?_
  refine bnd (weekday_f (D y m d) (by omega)) ?_
  rw [if_pos (by omega)]
  refine bnd (isLeap_f y) ?_
  have l1 : ((365 + lp y == 366) == leapB y) = true := by rcases lp_eq y with ⟨h, hb, _⟩ | ⟨h, hb, _⟩ <;> rw [h, hb] <;> decide
  have l2 : ((365 + lp y == 365) == !leapB y) = true := by rcases lp_eq y with ⟨h, hb, _⟩ | ⟨h, hb, _⟩ <;> rw [h, hb] <;> decide
  rw [if_pos l1]
  repeat first
    | (rw [if_pos l2])
    | (refine bnd (isLeap_f y) ?_)
    | (rw [if_pos rfl])
    | (refine bnd fy ?_)
    | (refine bnd (days_f y 1 1 hY (by omega) (by omega) (by omega)) ?_)
    | (rw [if_pos (by have := D_sub y m d; rw [w64 (by omega) (by omega)]; omega)])
  rw [decide_eq_true in_year]
theorem cycles_loop (y m d : Int) (hy : -1099511627776 ≤ y ∧ y ≤ 1099511627375) (hd : Dt y m d) : ∀ (c : Nat) (i : Int) (k : Nat), 1 ≤ i → i + c = 13 → c < k →
    zoneinfolaw04_CivilCycles.l0 k y m d (D y m d) (365 + lp y) (yd y i) i = some true := by
  intro c
  induction c with
  | zero =>
    intro i k h1 hi hk
    obtain ⟨k, rfl⟩ : ∃ j, k = j + 1 := ⟨k - 1, by omega⟩
    obtain rfl : i = 13 := by omega
    rw [yd_13]
    exact cycles_end y m d hy hd k
  | succ c ih =>
    intro i k h1 hi hk
    obtain ⟨k, rfl⟩ : ∃ j, k = j + 1 := ⟨k - 1, by omega⟩
    have e := yd_step y i h1 (by omega)
    have f := yd_le y i h1 (by omega)
    have g := md_bound y i
    have st : zoneinfolaw04_CivilCycles.l0 (k + 1) y m d (D y m d) (365 + lp y) (yd y i) i = zoneinfolaw04_CivilCycles.l0 k y m d (D y m d) (365 + lp y) (yd y (i + 1)) (i + 1) := by
      rw [zoneinfolaw04_CivilCycles.l0, if_pos (by omega)]
      refine bnd (monthDays_f y i h1 (by omega)) ?_
      rw [w64 (x := yd y i + md y i) (by omega) (by omega), w64 (x := i + 1) (by omega) (by omega), e]
    rw [st]
    exact ih (i + 1) k (by omega) (by omega) (by omega)
theorem CivilCycles : zoneinfolaw04_CivilCycles.Pure := by
  intro y m d _ _ _
  refine ⟨600 + 1 + 1, ?_⟩
  unfold zoneinfolaw04_CivilCycles.f
  have out : zoneinfolaw04_CivilCycles.j0 (600 + 1 + 1) y m d true = some true := by
    simp only [zoneinfolaw04_CivilCycles.j0, if_true]
    exact bnd awake04 rfl
  refine bnd awake04 ?_
  rw [if_pos rfl]
  refine bnd (valid_f y m d _ (by omega)) ?_
  by_cases h : -1099511627776 ≤ y ∧ y ≤ 1099511627776 ∧ Dt y m d
  · rw [decide_eq_true h, if_pos rfl]
    obtain ⟨h1, h2, h3⟩ := h
    by_cases h4 : y ≥ 1099511627376
    · rw [decide_eq_true h4]; exact out
    · rw [decide_eq_false h4]
      have hs := Dt_small h3
      have hY : Yr y := by unfold Yr; omega
      have hl := lp_01 y
      simp only [zoneinfolaw04_CivilCycles.j0]
      rw [if_neg (by decide)]
      refine bnd (days_f y m d hY h3.1 h3.2.1 (by omega)) ?_
      rw [w64 (x := y + 1) (by omega) (by omega)]
      refine bnd (days_f (y + 1) 1 1 (by unfold Yr; omega) (by omega) (by omega) (by omega)) ?_
      refine bnd (days_f y 1 1 hY (by omega) (by omega) (by omega)) ?_
      have j := J_step y
      have e1 : D (y + 1) 1 1 - D y 1 1 = 365 + lp y := by unfold D; rw [yd_1, yd_1]; omega
      rw [e1, w64 (by omega) (by omega)]
      have := cycles_loop y m d ⟨h1, by omega⟩ h3 12 1 (600 + 1) (by omega) (by omega) (by omega)
      rw [yd_1] at this
      exact this
  · rw [decide_eq_false h, if_neg (by decide)]; exact out
end Go.Proofs.YtnmifmjlcmgoeaaDoor.Pure
