/- The calendar: the date of a day number as civil computes it. -/
import Derived.Test.YtmfffkmnddeajaaDoorWWords
import Derived.Test.YtmfffkmnddeajaaDoorWMore
import Derived.Test.YtmfffkmnddeajaaDoorOwn
import Derived.Test.YtmfffkmnddeajaaDoorGx2
import Derived.Test.YtmfffkmnddeajaaDoorBase
import Derived.Test.YtmfffkmnddeajaaDoorCal
import Derived.Test.YtmfffkmnddeajaaDoorCal2
set_option linter.unusedVariables false
set_option linter.unusedSimpArgs false
namespace Go.Proofs.YtmfffkmnddeajaaDoor.Pure
open Go.RowKit Go.Proofs.YtmfffkmnddeajaaDoor.G Go.Proofs.YtmfffkmnddeajaaDoorW.PrintWords Go.Proofs.YtmfffkmnddeajaaDoorW.PrintLast Go.Proofs.YtmfffkmnddeajaaDoorW.PrintMore

/-- The year within an era, out of the day within it. -/
def yrOf (n : Int) : Int := (n - n / 1460 + n / 36524 - n / 146096) / 365
theorem century (m : Int) (b : Int) (hb : 0 ≤ b ∧ b ≤ 3) (h0 : 0 ≤ m) (h1 : m < 36524) (q : Int) (hq : q = (m - (m + 24 * b) / 1460) / 365) : 0 ≤ q ∧ q ≤ 99 ∧ 365 * q + q / 4 ≤ m ∧ m - (365 * q + q / 4) ≤ 365 ∧ (m - (365 * q + q / 4) = 365 → q % 4 = 3 ∧ q ≠ 99) := by
  have : b = 0 ∨ b = 1 ∨ b = 2 ∨ b = 3 := by omega
  rcases this with rfl | rfl | rfl | rfl <;> omega
theorem yr_facts (n : Int) (h0 : 0 ≤ n) (h1 : n < 146097) : 0 ≤ yrOf n ∧ yrOf n ≤ 399 ∧ 365 * yrOf n + yrOf n / 4 - yrOf n / 100 ≤ n ∧ n - (365 * yrOf n + yrOf n / 4 - yrOf n / 100) ≤ 364 + lp (yrOf n + 1) := by
  by_cases hl : n = 146096
  · subst hl; decide
  · have hb : 0 ≤ n / 36524 ∧ n / 36524 ≤ 3 := by omega
    have hc : n / 146096 = 0 := by omega
    have ha : n / 1460 = 25 * (n / 36524) + (n % 36524 + 24 * (n / 36524)) / 1460 := by omega
    have hy : yrOf n = 100 * (n / 36524) + (n % 36524 - (n % 36524 + 24 * (n / 36524)) / 1460) / 365 := by
      unfold yrOf
      rw [hc, ha]
      have hn : n = 36524 * (n / 36524) + n % 36524 := by omega
      generalize n / 36524 = b at *
      generalize n % 36524 = m at *
      generalize (m + 24 * b) / 1460 = t at *
      rw [hn]; omega
    obtain ⟨c1, c2, c3, c4, c5⟩ := century (n % 36524) (n / 36524) hb (by omega) (by omega) _ rfl
    rw [hy]
    have hn : n = 36524 * (n / 36524) + n % 36524 := by omega
    generalize (n % 36524 - (n % 36524 + 24 * (n / 36524)) / 1460) / 365 = q at *
    generalize n % 36524 = m at *
    generalize n / 36524 = b at *
    clear ha hy hl hc
    subst hn
    have f1 : (100 * b + q) / 4 = 25 * b + q / 4 := by omega
    have f2 : (100 * b + q) / 100 = b := by omega
    rw [f1, f2]
    refine ⟨by omega, by omega, by omega, ?_⟩
    rcases lp_eq (100 * b + q + 1) with ⟨h, _, g⟩ | ⟨h, _, g⟩ <;> rw [h]
    · omega
    · have : m - (365 * q + q / 4) ≠ 365 := by
        intro e
        obtain ⟨g1, g2⟩ := c5 e
        apply g
        omega
      omega
theorem months (doy l : Int) (hl : l = 0 ∨ l = 1) (h0 : 0 ≤ doy) (h1 : doy ≤ 364 + l) (mo : Int) (hm : mo = (5 * doy + 2) / 153) (d : Int) (hd : d = doy - (153 * mo + 2) / 5 + 1) :
    0 ≤ mo ∧ mo ≤ 11 ∧ 1 ≤ d ∧ (mo = 11 → d ≤ 28 + l) ∧ d ≤ 31 ∧ (mo = 1 ∨ mo = 3 ∨ mo = 6 ∨ mo = 8 → d ≤ 30) := by
  have b : 0 ≤ mo ∧ mo ≤ 11 := by omega
  have : mo = 0 ∨ mo = 1 ∨ mo = 2 ∨ mo = 3 ∨ mo = 4 ∨ mo = 5 ∨ mo = 6 ∨ mo = 7 ∨ mo = 8 ∨ mo = 9 ∨ mo = 10 ∨ mo = 11 := by omega
  rcases this with rfl | rfl | rfl | rfl | rfl | rfl | rfl | rfl | rfl | rfl | rfl | rfl <;> omega
theorem date_f (day : Int) (hd : InD day) : ∃ y m d, civil_Date.f day = some (y, m, d) ∧ Dt y m d ∧ D y m d = day ∧ -1400000000000 ≤ y ∧ y ≤ 1400000000000 := by
  unfold InD at hd
  unfold civil_Date.f
  have hq : -5000000000 ≤ (day + 719468) / 146097 ∧ (day + 719468) / 146097 ≤ 5000000000 := by omega
  have hr : 0 ≤ (day + 719468) % 146097 ∧ (day + 719468) % 146097 < 146097 := by omega
  have he : day + 719468 = 146097 * ((day + 719468) / 146097) + (day + 719468) % 146097 := by omega
  have hfl := floor_f (day + 719468) 146097 (by omega) (by omega) (by omega)
  rw [w64 (x := day + 719468) (by omega) (by omega), hfl, Option.bind_some]
  dsimp only
  generalize (day + 719468) / 146097 = era at *
  generalize (day + 719468) % 146097 = n at *
  obtain ⟨y0, y1, y2, y3⟩ := yr_facts n hr.1 hr.2
  have hY : wrap64 (Int.tdiv (wrap64 ((wrap64 ((wrap64 (n - (wrap64 (Int.tdiv n 1460)))) + (wrap64 (Int.tdiv n 36524)))) - (wrap64 (Int.tdiv n 146096)))) 365) = yrOf n := by
    rw [Int.tdiv_eq_ediv_of_nonneg hr.1, Int.tdiv_eq_ediv_of_nonneg hr.1, Int.tdiv_eq_ediv_of_nonneg hr.1, w64 (x := n / 1460) (by omega) (by omega), w64 (x := n / 36524) (by omega) (by omega), w64 (x := n / 146096) (by omega) (by omega),
      w64 (x := n - n / 1460) (by omega) (by omega), w64 (x := n - n / 1460 + n / 36524) (by omega) (by omega), w64 (x := n - n / 1460 + n / 36524 - n / 146096) (by omega) (by omega), Int.tdiv_eq_ediv_of_nonneg (by omega)]
    exact w64 (by show _ ≤ yrOf n; omega) (by show yrOf n ≤ _; omega)
  rw [hY]
  have hl := lp_01 (yrOf n + 1)
  have hlc := lp_cycle (yrOf n + 1) era
  generalize yrOf n = yr at *
  clear hY hfl
  have hS : wrap64 (n - (wrap64 ((wrap64 ((wrap64 (yr * 365)) + (wrap64 (Int.tdiv yr 4)))) - (wrap64 (Int.tdiv yr 100))))) = n - (365 * yr + yr / 4 - yr / 100) := by
    rw [Int.tdiv_eq_ediv_of_nonneg y0, Int.tdiv_eq_ediv_of_nonneg y0, w64 (x := yr * 365) (by omega) (by omega), w64 (x := yr / 4) (by omega) (by omega), w64 (x := yr / 100) (by omega) (by omega), w64 (x := yr * 365 + yr / 4) (by omega) (by omega), w64 (x := yr * 365 + yr / 4 - yr / 100) (by omega) (by omega), w64 (by omega) (by omega)]
    omega
  rw [hS]
  have hM : Mz (400 * era + yr) = 146097 * era + (365 * yr + yr / 4 - yr / 100) := by unfold Mz; omega
  obtain ⟨doy, hdoy⟩ : ∃ x, x = n - (365 * yr + yr / 4 - yr / 100) := ⟨_, rfl⟩
  rw [← hdoy]
  have hMo : wrap64 (Int.tdiv (wrap64 ((wrap64 (5 * doy)) + 2)) 153) = (5 * doy + 2) / 153 := by
    rw [w64 (x := 5 * doy) (by omega) (by omega), w64 (x := 5 * doy + 2) (by omega) (by omega), Int.tdiv_eq_ediv_of_nonneg (by omega), w64 (by omega) (by omega)]
  rw [hMo]
  obtain ⟨d, hdd⟩ : ∃ x, x = doy - (153 * ((5 * doy + 2) / 153) + 2) / 5 + 1 := ⟨_, rfl⟩
  obtain ⟨m0, m1, m2, m3, m4, m5⟩ := months doy (lp (yr + 1)) hl (by omega) (by omega) _ rfl d hdd
  generalize (5 * doy + 2) / 153 = mo at *
  clear hMo hS
  have hD : wrap64 ((wrap64 (doy - (wrap64 (Int.tdiv (wrap64 ((wrap64 (153 * mo)) + 2)) 5)))) + 1) = d := by
    rw [w64 (x := 153 * mo) (by omega) (by omega), w64 (x := 153 * mo + 2) (by omega) (by omega), Int.tdiv_eq_ediv_of_nonneg (by omega), w64 (x := (153 * mo + 2) / 5) (by omega) (by omega), w64 (x := doy - (153 * mo + 2) / 5) (by omega) (by omega), w64 (by omega) (by omega), hdd]
  rw [hD, w64 (x := mo + 3) (by omega) (by omega), w64 (x := era * 400) (by omega) (by omega), w64 (x := era * 400 + yr) (by omega) (by omega)]
  by_cases h12 : mo + 3 > 12
  · rw [if_pos h12, w64 (x := era * 400 + yr + 1) (by omega) (by omega), w64 (x := mo + 3 - 12) (by omega) (by omega)]
    refine ⟨era * 400 + yr + 1, mo + 3 - 12, d, rfl, ⟨by omega, by omega, m2, ?_⟩, ?_, by omega, by omega⟩
    · rw [show era * 400 + yr + 1 = yr + 1 + 400 * era by omega, md_cycle]
      have : mo = 10 ∨ mo = 11 := by omega
      rcases this with rfl | rfl
      · show d ≤ md (yr + 1) 1
        rw [show md (yr + 1) 1 = 31 from rfl]; omega
      · show d ≤ md (yr + 1) 2
        rw [show md (yr + 1) 2 = 28 + lp (yr + 1) from rfl]; exact m3 rfl
    · rw [D_march _ _ _ (by omega) (by omega), if_pos (by omega), show era * 400 + yr + 1 - 1 = 400 * era + yr by omega, hM, show (mo + 3 - 12 + 9) % 12 = mo by omega]
      omega
  · rw [if_neg h12]
    refine ⟨era * 400 + yr, mo + 3, d, rfl, ⟨by omega, by omega, m2, ?_⟩, ?_, by omega, by omega⟩
    · unfold md
      rw [if_neg (by omega)]
      by_cases h : mo + 3 = 4 ∨ mo + 3 = 6 ∨ mo + 3 = 9 ∨ mo + 3 = 11
      · rw [if_pos h]; exact m5 (by omega)
      · rw [if_neg h]; omega
    · rw [D_march _ _ _ (by omega) (by omega), if_neg (by omega), show era * 400 + yr = 400 * era + yr by omega, hM, show (mo + 3 + 9) % 12 = mo by omega]
      omega
end Go.Proofs.YtmfffkmnddeajaaDoor.Pure
