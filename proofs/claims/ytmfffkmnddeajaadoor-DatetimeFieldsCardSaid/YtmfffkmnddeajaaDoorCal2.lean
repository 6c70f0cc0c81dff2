/- The calendar, the other way: which date a day number has; the reference's loops. -/
import Derived.Test.YtmfffkmnddeajaaDoorWWords
import Derived.Test.YtmfffkmnddeajaaDoorWMore
import Derived.Test.YtmfffkmnddeajaaDoorOwn
import Derived.Test.YtmfffkmnddeajaaDoorGx6
import Derived.Test.YtmfffkmnddeajaaDoorGx8
import Derived.Test.YtmfffkmnddeajaaDoorBase
import Derived.Test.YtmfffkmnddeajaaDoorCal
set_option linter.unusedVariables false
set_option linter.unusedSimpArgs false
namespace Go.Proofs.YtmfffkmnddeajaaDoor.Pure
open Go.RowKit Go.Proofs.YtmfffkmnddeajaaDoor.G Go.Proofs.YtmfffkmnddeajaaDoorW.PrintWords Go.Proofs.YtmfffkmnddeajaaDoorW.PrintLast Go.Proofs.YtmfffkmnddeajaaDoorW.PrintMore

theorem rYearDay_loop (y m : Int) (h2 : m ≤ 12) (s : Int) (hs : -100000 ≤ s ∧ s ≤ 100000) : ∀ (d : Nat) (i : Int) (k : Nat) (n : Int), 1 ≤ i → i + d = m → d + 1 < k → n = s + yd y i →
    zoneinforef04_YearDay.l0 k y m n i = some (s + yd y m) := by
  intro d
  induction d with
  | zero =>
    intro i k n h1 hi hk hn
    obtain ⟨k, rfl⟩ : ∃ j, k = j + 1 := ⟨k - 1, by omega⟩
    simp only [zoneinforef04_YearDay.l0]
    rw [if_neg (by omega), hn, show i = m by omega]
  | succ d ih =>
    intro i k n h1 hi hk hn
    obtain ⟨k, rfl⟩ : ∃ j, k = j + 1 := ⟨k - 1, by omega⟩
    have e := yd_step y i h1 (by omega)
    have f := yd_le y i h1 (by omega)
    have g := md_bound y i
    simp only [zoneinforef04_YearDay.l0]
    rw [if_pos (by omega)]
    refine bnd (rMonthDays_f y i k (by omega)) ?_
    rw [w64 (x := n + md y i) (by omega) (by omega), w64 (x := i + 1) (by omega) (by omega)]
    exact ih (i + 1) k _ (by omega) (by omega) (by omega) (by omega)
theorem rYearDay_f (y m d : Int) (h1 : 1 ≤ m) (h2 : m ≤ 12) (hd : -1000 ≤ d ∧ d ≤ 1000) (k : Nat) (hk : 20 ≤ k) : zoneinforef04_YearDay.f k y m d = some (yd y m + d - 1) := by
  unfold zoneinforef04_YearDay.f
  rw [w64 (by omega) (by omega)]
  obtain ⟨c, hc⟩ := Int.eq_ofNat_of_zero_le (show 0 ≤ m - 1 by omega)
  rw [rYearDay_loop y m h2 (d - 1) (by omega) c 1 k (d - 1) (by omega) (by omega) (by omega) (by rw [yd_1]; omega)]
  congr 1; omega
theorem rDays_loop (y m d r : Int) (hr : 0 ≤ r ∧ r ≤ 400) (h1 : 1 ≤ m) (h2 : m ≤ 12) (hd : -1000 ≤ d ∧ d ≤ 1000) (s : Int) (hs : -1000000000000000 ≤ s ∧ s ≤ 1000000000000000) : ∀ (c : Nat) (i : Int) (k : Nat) (n : Int), 0 ≤ i → i + c = r → c + 30 < k → n = s + (J i - J 0) →
    zoneinforef04_Days.l0 k y m d r n i = some (s + (J r - J 0) + (yd y m + d - 1)) := by
  intro c
  induction c with
  | zero =>
    intro i k n hi he hk hn
    obtain ⟨k, rfl⟩ : ∃ j, k = j + 1 := ⟨k - 1, by omega⟩
    obtain rfl : i = r := by omega
    simp only [zoneinforef04_Days.l0]
    rw [if_neg (by omega)]
    refine bnd (rYearDay_f y m d h1 h2 hd k (by omega)) ?_
    have b := yd_le y m h1 (by omega)
    have j : -1000000 ≤ J i - J 0 ∧ J i - J 0 ≤ 1000000 := by unfold J Mz; omega
    rw [hn, w64 (by omega) (by omega)]
  | succ c ih =>
    intro i k n hi he hk hn
    obtain ⟨k, rfl⟩ : ∃ j, k = j + 1 := ⟨k - 1, by omega⟩
    have e := J_step i
    have j : -1000000 ≤ J i - J 0 ∧ J i - J 0 ≤ 1000000 := by unfold J Mz; omega
    simp only [zoneinforef04_Days.l0]
    rw [if_pos (by omega)]
    refine bnd (rIsLeap_f i) ?_
    rcases lp_eq i with ⟨h, hb, _⟩ | ⟨h, hb, _⟩
    · rw [if_pos hb, w64 (x := n + 365) (by omega) (by omega), w64 (x := n + 365 + 1) (by omega) (by omega), w64 (x := i + 1) (by omega) (by omega)]
      exact ih (i + 1) k _ (by omega) (by omega) (by omega) (by omega)
    · rw [if_neg (by rw [hb]; decide), w64 (x := n + 365) (by omega) (by omega), w64 (x := i + 1) (by omega) (by omega)]
      exact ih (i + 1) k _ (by omega) (by omega) (by omega) (by omega)
theorem era_f (y : Int) (hy : Yr y) : zoneinforef04_era.f y = some ((y - 2000) / 400, (y - 2000) % 400) := by
  unfold zoneinforef04_era.f Yr at *
  rw [w64 (x := y - 2000) (by omega) (by omega)]
  by_cases h : 0 ≤ y - 2000
  · obtain ⟨h1, h2⟩ := tdm_pos 400 h
    rw [h1, h2, if_neg (by omega), w64 (by omega) (by omega)]
  · obtain ⟨h1, h2⟩ := tdm_neg 400 (show y - 2000 < 0 by omega)
    rw [h1, h2]
    by_cases h3 : -((-(y - 2000)) % 400) < 0
    · rw [if_pos h3, w64 (x := -((-(y - 2000)) / 400)) (by omega) (by omega), w64 (by omega) (by omega), w64 (by omega) (by omega)]
      congr 2
      · omega
      · omega
    · rw [if_neg h3, w64 (x := -((-(y - 2000)) / 400)) (by omega) (by omega)]
      congr 2
      · omega
      · omega
theorem J_cycle (y k : Int) : J (y + 400 * k) = J y + 146097 * k := by unfold J Mz; omega
theorem rDays_f (y m d : Int) (hy : Yr y) (h1 : 1 ≤ m) (h2 : m ≤ 12) (hd : -1000 ≤ d ∧ d ≤ 1000) (k : Nat) (hk : 500 ≤ k) : zoneinforef04_Days.f k y m d = some (D y m d) := by
  unfold zoneinforef04_Days.f
  refine bnd (era_f y hy) ?_
  dsimp only
  unfold Yr at hy
  have hr : 0 ≤ (y - 2000) % 400 ∧ (y - 2000) % 400 < 400 := by omega
  have hc := J_cycle ((y - 2000) % 400) ((y - 2000) / 400 + 5)
  rw [show (y - 2000) % 400 + 400 * ((y - 2000) / 400 + 5) = y by omega] at hc
  have h0 : J 0 = -719528 := by decide
  have hq : -900000000000000 ≤ (y - 2000) / 400 * 146097 ∧ (y - 2000) / 400 * 146097 ≤ 900000000000000 := by omega
  generalize (y - 2000) % 400 = r at *
  rw [w64 (x := (y - 2000) / 400 * 146097) (by omega) (by omega), w64 (by omega) (by omega)]
  obtain ⟨c, hcc⟩ := Int.eq_ofNat_of_zero_le hr.1
  rw [rDays_loop y m d r (by omega) h1 h2 hd (10957 + (y - 2000) / 400 * 146097) (by omega) c 0 k _ (by omega) (by omega) (by omega) (by omega)]
  congr 1
  unfold D
  rw [hc, h0]; omega
/-- The month loop of the reference's Date. -/
theorem rDate_months (kk y : Int) (hk0 : -5000000000 ≤ kk ∧ kk ≤ 5000000000) (hy : 0 ≤ y ∧ y ≤ 400) (n0 : Int) (hn0 : 0 ≤ n0) (hn1 : n0 < 365 + lp y) : ∀ (c : Nat) (m : Int) (k : Nat) (n : Int), 1 ≤ m → m + c = 12 → c + 1 < k → n = n0 - yd y m → 0 ≤ n →
    ∃ m' d', zoneinforef04_Date.l1 k kk n y m = some (2000 + 400 * kk + y, m', d') ∧ Dt y m' d' ∧ yd y m' + d' - 1 = n0 := by
  intro c
  induction c with
  | zero =>
    intro m k n h1 hm hk hn h0
    obtain ⟨k, rfl⟩ : ∃ j, k = j + 1 := ⟨k - 1, by omega⟩
    obtain rfl : m = 12 := by omega
    have e := yd_step y 12 (by omega) (by omega)
    rw [show (12 : Int) + 1 = 13 by omega, yd_13] at e
    have g := md_bound y 12
    have f := yd_le y 12 (by omega) (by omega)
    simp only [zoneinforef04_Date.l1]
    refine ⟨12, n + 1, ?_, ⟨by omega, by omega, by omega, by omega⟩, by omega⟩
    refine bnd (rMonthDays_f y 12 k (by omega)) ?_
    rw [if_neg (by omega), w64 (x := 400 * kk) (by omega) (by omega), w64 (x := 2000 + 400 * kk) (by omega) (by omega), w64 (x := 2000 + 400 * kk + y) (by omega) (by omega), w64 (x := n + 1) (by omega) (by omega)]
  | succ c ih =>
    intro m k n h1 hm hk hn h0
    obtain ⟨k, rfl⟩ : ∃ j, k = j + 1 := ⟨k - 1, by omega⟩
    have e := yd_step y m h1 (by omega)
    have g := md_bound y m
    have f := yd_le y m h1 (by omega)
    have hl := lp_01 y
    simp only [zoneinforef04_Date.l1]
    by_cases h : n ≥ md y m
    · obtain ⟨m', d', h3, h4⟩ := ih (m + 1) k (n - md y m) (by omega) (by omega) (by omega) (by omega) (by omega)
      refine ⟨m', d', ?_, h4⟩
      refine bnd (rMonthDays_f y m k (by omega)) ?_
      rw [if_pos h]
      refine bnd (rMonthDays_f y m k (by omega)) ?_
      rw [w64 (x := n - md y m) (by omega) (by omega), w64 (x := m + 1) (by omega) (by omega)]
      exact h3
    · refine ⟨m, n + 1, ?_, ⟨by omega, by omega, by omega, by omega⟩, by omega⟩
      refine bnd (rMonthDays_f y m k (by omega)) ?_
      rw [if_neg h, w64 (x := 400 * kk) (by omega) (by omega), w64 (x := 2000 + 400 * kk) (by omega) (by omega), w64 (x := 2000 + 400 * kk + y) (by omega) (by omega), w64 (x := n + 1) (by omega) (by omega)]
theorem rDate_years (kk : Int) (hk0 : -5000000000 ≤ kk ∧ kk ≤ 5000000000) (n0 : Int) (hn0 : 0 ≤ n0) (hn1 : n0 < 146097) : ∀ (c : Nat) (y : Int) (k : Nat) (n : Int), 0 ≤ y → y + c = 400 → c + 30 < k → n = n0 - (J y - J 0) → 0 ≤ n →
    ∃ y' m' d', zoneinforef04_Date.l0 k kk n y = some (2000 + 400 * kk + y', m', d') ∧ 0 ≤ y' ∧ y' < 400 ∧ Dt y' m' d' ∧ J y' - J 0 + (yd y' m' + d' - 1) = n0 := by
  intro c
  induction c with
  | zero =>
    intro y k n h1 hy hk hn h0
    exfalso
    obtain rfl : y = 400 := by omega
    have := J_cycle 0 1
    rw [show (0 : Int) + 400 * 1 = 400 by omega] at this
    omega
  | succ c ih =>
    intro y k n h1 hy hk hn h0
    obtain ⟨k, rfl⟩ : ∃ j, k = j + 1 := ⟨k - 1, by omega⟩
    have e := J_step y
    have b : n ≤ 146096 := by
      obtain ⟨z, hz⟩ := Int.eq_ofNat_of_zero_le h1
      have := J_mono 0 z
      rw [show (0 : Int) + z = y by omega] at this
      omega
    have here : n < 365 + lp y → ∀ k', 20 ≤ k' → ∃ m' d', zoneinforef04_Date.j2 k' kk n y = some (2000 + 400 * kk + y, m', d') ∧ Dt y m' d' ∧ yd y m' + d' - 1 = n := by
      intro hlt k' hk'
      obtain ⟨k', rfl⟩ : ∃ j, k' = j + 1 := ⟨k' - 1, by omega⟩
      simp only [zoneinforef04_Date.j2]
      exact rDate_months kk y hk0 (by omega) n h0 hlt 11 1 k' n (by omega) (by omega) (by omega) (by rw [yd_1]; omega) h0
    simp only [zoneinforef04_Date.l0]
    rcases lp_eq y with ⟨hl, hb, _⟩ | ⟨hl, hb, _⟩
    · rw [hl] at here e
      by_cases h : n < 366
      · obtain ⟨m', d', h3, h4, h5⟩ := here (by omega) k (by omega)
        refine ⟨y, m', d', ?_, h1, by omega, h4, by omega⟩
        refine bnd (rIsLeap_f y) ?_
        rw [if_pos hb, if_pos h]; exact h3
      · obtain ⟨y', m', d', h3, h4⟩ := ih (y + 1) k (n - 366) (by omega) (by omega) (by omega) (by omega) (by omega)
        refine ⟨y', m', d', ?_, h4⟩
        refine bnd (rIsLeap_f y) ?_
        rw [if_pos hb, if_neg h, w64 (x := n - 366) (by omega) (by omega), w64 (x := y + 1) (by omega) (by omega)]; exact h3
    · rw [hl] at here e
      by_cases h : n < 365
      · obtain ⟨m', d', h3, h4, h5⟩ := here (by omega) k (by omega)
        refine ⟨y, m', d', ?_, h1, by omega, h4, by omega⟩
        refine bnd (rIsLeap_f y) ?_
        rw [if_neg (by rw [hb]; decide), if_pos h]; exact h3
      · obtain ⟨y', m', d', h3, h4⟩ := ih (y + 1) k (n - 365) (by omega) (by omega) (by omega) (by omega) (by omega)
        refine ⟨y', m', d', ?_, h4⟩
        refine bnd (rIsLeap_f y) ?_
        rw [if_neg (by rw [hb]; decide), if_neg h, w64 (x := n - 365) (by omega) (by omega), w64 (x := y + 1) (by omega) (by omega)]; exact h3
theorem lp_cycle (y k : Int) : lp (y + 400 * k) = lp y := by
  rcases lp_eq y with ⟨h, _, h1⟩ | ⟨h, _, h1⟩ <;> rcases lp_eq (y + 400 * k) with ⟨g, _, g1⟩ | ⟨g, _, g1⟩ <;> rw [h, g] <;> omega
theorem yd_cycle (y m k : Int) : yd (y + 400 * k) m = yd y m := by unfold yd; rw [lp_cycle]
theorem md_cycle (y m k : Int) : md (y + 400 * k) m = md y m := by unfold md; rw [lp_cycle]
theorem Dt_cycle {y m d : Int} (k : Int) (h : Dt y m d) : Dt (y + 400 * k) m d := by unfold Dt at *; rw [md_cycle]; exact h
theorem D_cycle (y m d k : Int) : D (y + 400 * k) m d = D y m d + 146097 * k := by unfold D; rw [J_cycle, yd_cycle]; omega
/-- The days of the years of the range. -/
def InD (day : Int) : Prop := -500000000000000 ≤ day ∧ day ≤ 500000000000000
theorem rDate_f (day : Int) (hd : InD day) (k : Nat) (hk : 500 ≤ k) : ∃ y m d, zoneinforef04_Date.f k day = some (y, m, d) ∧ Dt y m d ∧ D y m d = day ∧ -1400000000000 ≤ y ∧ y ≤ 1400000000000 := by
  unfold InD at hd
  have hq : -5000000000 ≤ (day - 10957) / 146097 ∧ (day - 10957) / 146097 ≤ 5000000000 := by omega
  have hr : 0 ≤ (day - 10957) % 146097 ∧ (day - 10957) % 146097 < 146097 := by omega
  have he : day - 10957 = 146097 * ((day - 10957) / 146097) + (day - 10957) % 146097 := by omega
  have core : zoneinforef04_Date.f k day = zoneinforef04_Date.j0 k ((day - 10957) / 146097) ((day - 10957) % 146097) := by
    unfold zoneinforef04_Date.f
    rw [w64 (x := day - 10957) (by omega) (by omega)]
    by_cases h : 0 ≤ day - 10957
    · obtain ⟨h1, h2⟩ := tdm_pos 146097 h
      rw [h1, h2, if_neg (by omega), w64 (by omega) (by omega)]
    · obtain ⟨h1, h2⟩ := tdm_neg 146097 (show day - 10957 < 0 by omega)
      rw [h1, h2]
      by_cases h3 : -((-(day - 10957)) % 146097) < 0
      · rw [if_pos h3, w64 (x := -((-(day - 10957)) / 146097)) (by omega) (by omega), w64 (by omega) (by omega), w64 (by omega) (by omega)]
        rw [show -((-(day - 10957)) / 146097) - 1 = (day - 10957) / 146097 by omega, show -((-(day - 10957)) % 146097) + 146097 = (day - 10957) % 146097 by omega]
      · rw [if_neg h3, w64 (x := -((-(day - 10957)) / 146097)) (by omega) (by omega)]
        rw [show -((-(day - 10957)) / 146097) = (day - 10957) / 146097 by omega, show -((-(day - 10957)) % 146097) = (day - 10957) % 146097 by omega]
  rw [core]
  generalize (day - 10957) / 146097 = q at *
  generalize (day - 10957) % 146097 = r at *
  obtain ⟨k, rfl⟩ : ∃ j, k = j + 1 := ⟨k - 1, by omega⟩
  simp only [zoneinforef04_Date.j0]
  obtain ⟨y', m', d', h1, h2, h3, h4, h5⟩ := rDate_years q hq r hr.1 hr.2 400 0 k r (by omega) (by omega) (by omega) (by omega) hr.1
  have e := D_cycle y' m' d' (q + 5)
  have f := Dt_cycle (q + 5) h4
  rw [show y' + 400 * (q + 5) = 2000 + 400 * q + y' by omega] at e f
  refine ⟨_, m', d', h1, f, ?_, by omega, by omega⟩
  rw [e]
  unfold D
  have h0 : J 0 = -719528 := by decide
  omega
end Go.Proofs.YtmfffkmnddeajaaDoor.Pure
