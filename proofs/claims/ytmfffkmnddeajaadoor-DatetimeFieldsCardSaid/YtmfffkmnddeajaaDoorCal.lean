/- The calendar: what civil and its reference answer, in plain numbers. -/
import Derived.Test.YtmfffkmnddeajaaDoorWWords
import Derived.Test.YtmfffkmnddeajaaDoorWMore
import Derived.Test.YtmfffkmnddeajaaDoorOwn
import Derived.Test.YtmfffkmnddeajaaDoorGx2
import Derived.Test.YtmfffkmnddeajaaDoorGx6
import Derived.Test.YtmfffkmnddeajaaDoorBase
set_option linter.unusedVariables false
set_option linter.unusedSimpArgs false
namespace Go.Proofs.YtmfffkmnddeajaaDoor.Pure
open Go.RowKit Go.Proofs.YtmfffkmnddeajaaDoor.G Go.Proofs.YtmfffkmnddeajaaDoorW.PrintWords Go.Proofs.YtmfffkmnddeajaaDoorW.PrintLast Go.Proofs.YtmfffkmnddeajaaDoorW.PrintMore

theorem tdm_pos {a : Int} (b : Int) (h : 0 ≤ a) : Int.tdiv a b = a / b ∧ Int.tmod a b = a % b := ⟨Int.tdiv_eq_ediv_of_nonneg h, Int.tmod_eq_emod_of_nonneg h⟩
theorem tdm_neg {a : Int} (b : Int) (h : a < 0) : Int.tdiv a b = -((-a) / b) ∧ Int.tmod a b = -((-a) % b) := by
  have h1 : Int.tdiv a b = -(Int.tdiv (-a) b) := by rw [Int.neg_tdiv]; omega
  have h2 : Int.tmod a b = -(Int.tmod (-a) b) := by rw [Int.neg_tmod]; omega
  rw [h1, h2, Int.tdiv_eq_ediv_of_nonneg (by omega), Int.tmod_eq_emod_of_nonneg (by omega)]
  exact ⟨rfl, rfl⟩
theorem tmod0 (a b : Int) : Int.tmod a b = 0 ↔ a % b = 0 := Int.dvd_iff_tmod_eq_zero.symm.trans Int.dvd_iff_emod_eq_zero

/-- Days of the years before year z, counted from the begin of March. -/
def Mz (z : Int) : Int := 365 * z + z / 4 - z / 100 + z / 400
def leapB (y : Int) : Bool := decide (y % 4 = 0 ∧ (y % 100 ≠ 0 ∨ y % 400 = 0))
def lp (y : Int) : Int := if leapB y = true then 1 else 0
theorem leapB_iff (y : Int) : leapB y = true ↔ y % 4 = 0 ∧ (y % 100 ≠ 0 ∨ y % 400 = 0) := by unfold leapB; exact decide_eq_true_iff
theorem lp_01 (y : Int) : lp y = 0 ∨ lp y = 1 := by unfold lp; split <;> simp
theorem lp_eq (y : Int) : (lp y = 1 ∧ leapB y = true ∧ y % 4 = 0 ∧ (y % 100 ≠ 0 ∨ y % 400 = 0)) ∨ (lp y = 0 ∧ leapB y = false ∧ ¬ (y % 4 = 0 ∧ (y % 100 ≠ 0 ∨ y % 400 = 0))) := by
  by_cases h : leapB y = true
  · exact .inl ⟨by unfold lp; rw [if_pos h], h, (leapB_iff y).1 h⟩
  · exact .inr ⟨by unfold lp; rw [if_neg h], Bool.eq_false_iff.2 h, fun h' => h ((leapB_iff y).2 h')⟩
theorem Mz_step (y : Int) : Mz y = Mz (y - 1) + 365 + lp y := by
  unfold Mz
  rcases lp_eq y with ⟨h, _, h2⟩ | ⟨h, _, h2⟩ <;> rw [h] <;> omega
/-- The first day of a year, and of a month. -/
def J (y : Int) : Int := Mz (y - 1) + 306 - 719468
theorem J_step (y : Int) : J (y + 1) = J y + 365 + lp y := by unfold J; have := Mz_step y; rw [show y + 1 - 1 = y by omega]; omega
def yd (y m : Int) : Int := if m ≤ 2 then 31 * (m - 1) else 59 + lp y + (153 * (m - 3) + 2) / 5
def md (y m : Int) : Int := if m = 2 then 28 + lp y else if m = 4 ∨ m = 6 ∨ m = 9 ∨ m = 11 then 30 else 31
theorem yd_step (y m : Int) (h1 : 1 ≤ m) (h2 : m ≤ 12) : yd y (m + 1) = yd y m + md y m := by
  have h := lp_01 y
  have : m = 1 ∨ m = 2 ∨ m = 3 ∨ m = 4 ∨ m = 5 ∨ m = 6 ∨ m = 7 ∨ m = 8 ∨ m = 9 ∨ m = 10 ∨ m = 11 ∨ m = 12 := by omega
  rcases this with rfl | rfl | rfl | rfl | rfl | rfl | rfl | rfl | rfl | rfl | rfl | rfl <;> simp [yd, md] <;> omega
theorem md_bound (y m : Int) : 28 ≤ md y m ∧ md y m ≤ 31 := by
  have h := lp_01 y
  unfold md; split
  · omega
  · split <;> omega
theorem yd_1 (y : Int) : yd y 1 = 0 := by unfold yd; simp
theorem yd_13 (y : Int) : yd y 13 = 365 + lp y := by unfold yd; simp; omega
theorem yd_mono (y : Int) (d : Nat) : ∀ m : Int, 1 ≤ m → m + d ≤ 13 → yd y m + 28 * d ≤ yd y (m + d) := by
  induction d with
  | zero => intro m h1 h2; simp
  | succ d ih =>
    intro m h1 h2
    have h3 := ih m h1 (by omega)
    have h4 := yd_step y (m + d) (by omega) (by omega)
    have h5 := md_bound y (m + d)
    rw [show m + ((d + 1 : Nat) : Int) = m + d + 1 by omega, h4]
    omega
theorem yd_le (y m : Int) (h1 : 1 ≤ m) (h2 : m ≤ 13) : 0 ≤ yd y m ∧ yd y m ≤ 366 := by
  have h := lp_01 y
  unfold yd; split <;> omega
/-- The day number of a date. -/
def D (y m d : Int) : Int := J y + yd y m + d - 1
theorem J_bound (y : Int) (h : -2199023255552 ≤ y ∧ y ≤ 2199023255552) : -900000000000000 ≤ J y ∧ J y ≤ 900000000000000 := by unfold J Mz; omega
/-- The same out of years that begin with March. -/
theorem D_march (y m d : Int) (h1 : 1 ≤ m) (h2 : m ≤ 12) : D y m d = Mz (if m ≤ 2 then y - 1 else y) + (153 * ((m + 9) % 12) + 2) / 5 + d - 1 - 719468 := by
  unfold D J
  have h := Mz_step y
  by_cases h3 : m ≤ 2
  · rw [if_pos h3]
    unfold yd; rw [if_pos h3]
    have : m = 1 ∨ m = 2 := by omega
    rcases this with rfl | rfl <;> omega
  · rw [if_neg h3]
    unfold yd; rw [if_neg h3, show (m + 9) % 12 = m - 3 by omega]; omega
theorem floor_f (a b : Int) (hb : 0 < b) (ha : -4611686018427387904 ≤ a ∧ a ≤ 4611686018427387904) (hb2 : b ≤ 4611686018427387904) : civil_floor.f a b = some (a / b, a % b) := by
  unfold civil_floor.f
  rw [if_neg (by omega)]
  have hm := Int.emod_nonneg a (Int.ne_of_gt hb)
  have hm2 := Int.emod_lt_of_pos a hb
  have hd := Int.emod_add_mul_ediv a b
  by_cases h : 0 ≤ a
  · obtain ⟨h1, h2⟩ := tdm_pos b h
    have q0 : 0 ≤ a / b := Int.ediv_nonneg h (by omega)
    have q1 : a / b ≤ a := Int.ediv_le_self _ h
    rw [h1, h2, if_neg (by omega), w64 (by omega) (by omega)]
  · obtain ⟨h1, h2⟩ := tdm_neg b (show a < 0 by omega)
    have p0 : 0 ≤ (-a) / b := Int.ediv_nonneg (by omega) (by omega)
    have p1 : (-a) / b ≤ -a := Int.ediv_le_self _ (by omega)
    have r0 := Int.emod_nonneg (-a) (Int.ne_of_gt hb)
    have r1 := Int.emod_lt_of_pos (-a) hb
    have hd2 := Int.emod_add_mul_ediv (-a) b
    rw [h1, h2]
    have key : (b * (a / b) + b * ((-a) / b) = -(a % b) - (-a) % b) := by omega
    rw [← Int.mul_add] at key
    by_cases hz : (-a) % b = 0
    · rw [hz] at key ⊢
      rw [if_neg (by omega), w64 (by omega) (by omega)]
      have : a / b + (-a) / b = 0 := by
        have h4 : -b < b * (a / b + (-a) / b) := by omega
        have h5 : b * (a / b + (-a) / b) < b := by omega
        have h6 : -1 < a / b + (-a) / b := Int.lt_of_mul_lt_mul_left (by omega) (Int.le_of_lt hb)
        have h7 : a / b + (-a) / b < 1 := Int.lt_of_mul_lt_mul_left (by omega) (Int.le_of_lt hb)
        omega
      have h8 : a % b = 0 := by rw [this, Int.mul_zero] at key; omega
      rw [h8, show -((-a) / b) = a / b by omega]; rfl
    · rw [if_pos (by omega), w64 (x := -((-a) / b)) (by omega) (by omega)]
      have : a / b + (-a) / b = -1 := by
        have h4 : b * -2 < b * (a / b + (-a) / b) := by omega
        have h5 : b * (a / b + (-a) / b) < b * 0 := by omega
        have h6 : -2 < a / b + (-a) / b := Int.lt_of_mul_lt_mul_left h4 (Int.le_of_lt hb)
        have h7 : a / b + (-a) / b < 0 := Int.lt_of_mul_lt_mul_left h5 (Int.le_of_lt hb)
        omega
      rw [this] at key
      rw [w64 (by omega) (by omega), w64 (by omega) (by omega), show -((-a) / b) - 1 = a / b by omega, show -((-a) % b) + b = a % b by omega]
theorem isLeap_f (y : Int) : civil_IsLeap.f y = some (leapB y) := by
  unfold civil_IsLeap.f
  simp only [tmod0]
  by_cases h4 : y % 4 = 0
  · rw [if_pos h4]
    by_cases h1 : y % 100 = 0
    · rw [if_pos h1]
      congr 1
      rw [Bool.eq_iff_iff, beq_iff_eq, tmod0, leapB_iff]; omega
    · rw [if_neg h1, (leapB_iff y).2 (by omega)]
  · rw [if_neg h4]
    congr 1
    symm
    rw [Bool.eq_false_iff]
    intro h; exact h4 ((leapB_iff y).1 h).1
theorem rIsLeap_f (y : Int) : zoneinforef04_IsLeap.f y = some (leapB y) := by
  unfold zoneinforef04_IsLeap.f
  simp only [tmod0]
  by_cases h4 : y % 400 = 0
  · rw [if_pos h4, (leapB_iff y).2 (by omega)]
  · rw [if_neg h4]
    by_cases h1 : y % 4 = 0
    · rw [if_pos h1]
      congr 1
      rw [Bool.eq_iff_iff, bne_iff_ne, ne_eq, tmod0, leapB_iff]; omega
    · rw [if_neg h1]
      congr 1
      symm
      rw [Bool.eq_false_iff]
      intro h; exact h1 ((leapB_iff y).1 h).1
theorem monthDays_f (y m : Int) (h1 : 1 ≤ m) (h2 : m ≤ 12) : civil_MonthDays.f y m = some (md y m) := by
  unfold civil_MonthDays.f
  by_cases h : m = 2
  · rw [if_pos h]
    refine bnd (isLeap_f y) ?_
    unfold md lp
    rw [if_pos h]
    split <;> rfl
  · rw [if_neg h, if_pos (by omega), if_pos (by omega)]
    congr 1
    have : m = 1 ∨ m = 3 ∨ m = 4 ∨ m = 5 ∨ m = 6 ∨ m = 7 ∨ m = 8 ∨ m = 9 ∨ m = 10 ∨ m = 11 ∨ m = 12 := by omega
    rcases this with rfl | rfl | rfl | rfl | rfl | rfl | rfl | rfl | rfl | rfl | rfl <;> rfl
theorem rMonthDays_f (y m : Int) (k : Nat) (hk : 1 ≤ k) : zoneinforef04_MonthDays.f k y m = some (md y m) := by
  obtain ⟨k, rfl⟩ : ∃ j, k = j + 1 := ⟨k - 1, by omega⟩
  unfold zoneinforef04_MonthDays.f
  simp only [zoneinforef04_MonthDays.j0]
  have fin : ∀ b : Bool, (b = true ↔ (m = 4 ∨ m = 6 ∨ m = 9 ∨ m = 11)) → (if b = true then some 30 else if m = 2 then (zoneinforef04_IsLeap.f y).bind fun t130 => (if t130 = true then (some 29) else (some 28)) else some 31) = some (md y m) := by
    intro b hb
    unfold md
    by_cases h : m = 4 ∨ m = 6 ∨ m = 9 ∨ m = 11
    · rw [if_pos (hb.2 h), if_neg (by omega), if_pos h]
    · rw [if_neg (fun h' => h (hb.1 h'))]
      by_cases h2 : m = 2
      · rw [if_pos h2, if_pos h2]
        refine bnd (rIsLeap_f y) ?_
        unfold lp
        split <;> rfl
      · rw [if_neg h2, if_neg h2, if_neg h]
  by_cases h4 : m = 4
  · rw [if_pos h4]; exact fin _ (by rw [beq_iff_eq]; omega)
  · rw [if_neg h4]
    by_cases h6 : m = 6
    · rw [if_pos h6]; exact fin _ (by rw [beq_iff_eq]; omega)
    · rw [if_neg h6]
      by_cases h9 : m = 9
      · rw [if_pos h9]; exact fin _ (by rw [beq_iff_eq]; omega)
      · rw [if_neg h9]; exact fin _ (by rw [beq_iff_eq]; omega)
/-- The range of years in which all is computed without a wrap. -/
def Yr (y : Int) : Prop := -1100000000000 ≤ y ∧ y ≤ 1100000000000
theorem days_f (y m d : Int) (hy : Yr y) (h1 : 1 ≤ m) (h2 : m ≤ 12) (hd : -1000 ≤ d ∧ d ≤ 1000) : civil_Days.f y m d = some (D y m d) := by
  unfold civil_Days.f Yr at *
  rw [D_march y m d h1 h2]
  have ht : Int.tmod (wrap64 (m + 9)) 12 = (m + 9) % 12 := by rw [w64 (by omega) (by omega)]; exact Int.tmod_eq_emod_of_nonneg (by omega)
  have h0 : 0 ≤ (m + 9) % 12 ∧ (m + 9) % 12 ≤ 11 := by omega
  rw [ht]
  generalize (m + 9) % 12 = mo at *
  have hx : wrap64 ((wrap64 (153 * mo)) + 2) = 153 * mo + 2 := by rw [w64 (x := 153 * mo) (by omega) (by omega), w64 (by omega) (by omega)]
  have hx2 : wrap64 (Int.tdiv (wrap64 ((wrap64 (153 * mo)) + 2)) 5) = (153 * mo + 2) / 5 := by rw [hx, Int.tdiv_eq_ediv_of_nonneg (by omega), w64 (by omega) (by omega)]
  rw [hx2]
  have core : ∀ z : Int, -1100000000001 ≤ z → z ≤ 1100000000001 → (some (wrap64 ((wrap64 ((wrap64 ((wrap64 ((wrap64 ((wrap64 ((wrap64 ((wrap64 (z / 400 * 146097)) + (wrap64 (z % 400 * 365)))) + (wrap64 (Int.tdiv (z % 400) 4)))) - (wrap64 (Int.tdiv (z % 400) 100)))) + ((153 * mo + 2) / 5))) + d)) - 1)) - 719468)) : Option Int) = some (Mz z + (153 * mo + 2) / 5 + d - 1 - 719468) := by
    intro z hz1 hz2
    rw [Int.tdiv_eq_ediv_of_nonneg (by omega), Int.tdiv_eq_ediv_of_nonneg (by omega)]
    have e1 : z / 400 * 146097 + z % 400 * 365 + z % 400 / 4 - z % 400 / 100 = Mz z := by unfold Mz; omega
    have b1 : -900000000000000 ≤ z / 400 * 146097 ∧ z / 400 * 146097 ≤ 900000000000000 := by omega
    have b2 : 0 ≤ z % 400 ∧ z % 400 < 400 := by omega
    have b3 : 0 ≤ (153 * mo + 2) / 5 ∧ (153 * mo + 2) / 5 ≤ 400 := by omega
    rw [w64 (x := z / 400 * 146097) (by omega) (by omega), w64 (x := z % 400 * 365) (by omega) (by omega), w64 (x := z % 400 / 4) (by omega) (by omega), w64 (x := z % 400 / 100) (by omega) (by omega)]
    generalize (153 * mo + 2) / 5 = u at *
    generalize z / 400 * 146097 = p at *
    generalize z % 400 = q at *
    rw [w64 (x := p + q * 365) (by omega) (by omega), w64 (x := p + q * 365 + q / 4) (by omega) (by omega), w64 (x := p + q * 365 + q / 4 - q / 100) (by omega) (by omega), e1]
    have b4 : -910000000000000 ≤ Mz z ∧ Mz z ≤ 910000000000000 := by omega
    generalize Mz z = M at *
    rw [w64 (x := M + u) (by omega) (by omega), w64 (x := M + u + d) (by omega) (by omega), w64 (x := M + u + d - 1) (by omega) (by omega), w64 (by omega) (by omega)]
  by_cases h3 : m ≤ 2
  · rw [if_pos h3, if_pos h3, w64 (x := y - 1) (by omega) (by omega)]
    refine bnd (floor_f (y - 1) 400 (by omega) (by omega) (by omega)) ?_
    exact core (y - 1) (by omega) (by omega)
  · rw [if_neg h3, if_neg h3]
    refine bnd (floor_f y 400 (by omega) (by omega) (by omega)) ?_
    exact core y (by omega) (by omega)
theorem D_bound (y m d : Int) (hy : Yr y) (h1 : 1 ≤ m) (h2 : m ≤ 12) (hd : -1000 ≤ d ∧ d ≤ 1000) : -910000000000000 ≤ D y m d ∧ D y m d ≤ 910000000000000 := by
  unfold Yr at hy
  have h3 := J_bound y (by omega)
  have h4 := yd_le y m h1 (by omega)
  unfold D; omega
theorem D_sub (y m d : Int) : D y m d - D y 1 1 = yd y m + d - 1 := by unfold D; rw [yd_1]; omega
theorem weekday_f (n : Int) (hn : -4000000000000000000 ≤ n ∧ n ≤ 4000000000000000000) : civil_Weekday.f n = some ((n + 4) % 7) := by
  unfold civil_Weekday.f
  rw [w64 (by omega) (by omega)]
  exact bnd (floor_f (n + 4) 7 (by omega) (by omega) (by omega)) rfl
theorem rWeekday_f (n : Int) (hn : -4000000000000000000 ≤ n ∧ n ≤ 4000000000000000000) : zoneinforef04_Weekday.f n = some ((n + 4) % 7) := by
  unfold zoneinforef04_Weekday.f
  rw [w64 (x := n - 3) (by omega) (by omega)]
  by_cases h : 0 ≤ n - 3
  · rw [(tdm_pos 7 h).2, if_neg (by omega)]; congr 1; omega
  · rw [(tdm_neg 7 (show n - 3 < 0 by omega)).2]
    by_cases h2 : -((-(n - 3)) % 7) < 0
    · rw [if_pos h2, w64 (by omega) (by omega)]; congr 1; omega
    · rw [if_neg h2]; congr 1; omega

/-- A date as it should be. -/
def Dt (y m d : Int) : Prop := 1 ≤ m ∧ m ≤ 12 ∧ 1 ≤ d ∧ d ≤ md y m
theorem J_mono (y : Int) (d : Nat) : J y + 365 * d ≤ J (y + d) := by
  induction d with
  | zero => simp
  | succ d ih =>
    have := J_step (y + d)
    have h := lp_01 (y + d)
    rw [show y + ((d + 1 : Nat) : Int) = y + d + 1 by omega, this]; omega
theorem Dt_in {y m d : Int} (h : Dt y m d) : J y ≤ D y m d ∧ D y m d < J (y + 1) := by
  obtain ⟨h1, h2, h3, h4⟩ := h
  have e := yd_step y m h1 h2
  have f := yd_le y m h1 (by omega)
  obtain ⟨c, hc⟩ := Int.eq_ofNat_of_zero_le (show 0 ≤ 13 - (m + 1) by omega)
  have g := yd_mono y c (m + 1) (by omega) (by omega)
  rw [show m + 1 + (c : Int) = 13 by omega, yd_13] at g
  have j := J_step y
  unfold D; omega
/-- Later in the calendar, later in days. -/
theorem D_lt_year {y y' m m' d d' : Int} (h : Dt y m d) (h' : Dt y' m' d') (hl : y < y') : D y m d < D y' m' d' := by
  obtain ⟨c, hc⟩ := Int.eq_ofNat_of_zero_le (show 0 ≤ y' - (y + 1) by omega)
  have j := J_mono (y + 1) c
  rw [show y + 1 + (c : Int) = y' by omega] at j
  have a := (Dt_in h).2
  have b := (Dt_in h').1
  omega
theorem D_lt_month {y m m' d d' : Int} (h : Dt y m d) (h' : Dt y m' d') (hl : m < m') : D y m d < D y m' d' := by
  obtain ⟨h1, h2, h3, h4⟩ := h
  obtain ⟨g1, g2, g3, g4⟩ := h'
  obtain ⟨c, hc⟩ := Int.eq_ofNat_of_zero_le (show 0 ≤ m' - (m + 1) by omega)
  have e := yd_step y m h1 h2
  have g := yd_mono y c (m + 1) (by omega) (by omega)
  rw [show m + 1 + (c : Int) = m' by omega] at g
  unfold D; omega
theorem D_inj {y y' m m' d d' : Int} (h : Dt y m d) (h' : Dt y' m' d') (e : D y m d = D y' m' d') : y = y' ∧ m = m' ∧ d = d' := by
  have hy : y = y' := by
    rcases Int.lt_trichotomy y y' with hl | he | hl
    · have := D_lt_year h h' hl; omega
    · exact he
    · have := D_lt_year h' h hl; omega
  subst hy
  have hm : m = m' := by
    rcases Int.lt_trichotomy m m' with hl | he | hl
    · have := D_lt_month h h' hl; omega
    · exact he
    · have := D_lt_month h' h hl; omega
  subst hm
  refine ⟨rfl, rfl, ?_⟩
  unfold D at e; omega
end Go.Proofs.YtmfffkmnddeajaaDoor.Pure
