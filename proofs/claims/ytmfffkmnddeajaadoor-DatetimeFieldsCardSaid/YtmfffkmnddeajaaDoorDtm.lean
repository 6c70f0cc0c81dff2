/- Timestamps: what datetime and its reference answer, in plain numbers. -/
import Derived.Test.YtmfffkmnddeajaaDoorWWords
import Derived.Test.YtmfffkmnddeajaaDoorWMore
import Derived.Test.YtmfffkmnddeajaaDoorOwn
import Derived.Test.YtmfffkmnddeajaaDoorGx2
import Derived.Test.YtmfffkmnddeajaaDoorGx4
import Derived.Test.YtmfffkmnddeajaaDoorGx6
import Derived.Test.YtmfffkmnddeajaaDoorGx8
import Derived.Test.YtmfffkmnddeajaaDoorBase
import Derived.Test.YtmfffkmnddeajaaDoorCal
import Derived.Test.YtmfffkmnddeajaaDoorCal2
import Derived.Test.YtmfffkmnddeajaaDoorCal3
import Derived.Test.YtmfffkmnddeajaaDoorVal
set_option linter.unusedVariables false
set_option linter.unusedSimpArgs false
namespace Go.Proofs.YtmfffkmnddeajaaDoor.Pure
open Go.RowKit Go.Proofs.YtmfffkmnddeajaaDoor.G Go.Proofs.YtmfffkmnddeajaaDoorW.PrintWords Go.Proofs.YtmfffkmnddeajaaDoorW.PrintLast Go.Proofs.YtmfffkmnddeajaaDoorW.PrintMore

def I64 (t : Int) : Prop := -9223372036854775808 ≤ t ∧ t ≤ 9223372036854775807
theorem split_f (t : Int) (ht : I64 t) : datetime_Split.f t = some (t / 86400, t % 86400) := by
  unfold datetime_Split.f I64 at *
  by_cases h : 0 ≤ t
  · obtain ⟨h1, h2⟩ := tdm_pos 86400 h
    rw [h1, h2, if_neg (by omega), w64 (by omega) (by omega)]
  · obtain ⟨h1, h2⟩ := tdm_neg 86400 (show t < 0 by omega)
    rw [h1, h2, w64 (x := -((-t) / 86400)) (by omega) (by omega)]
    by_cases h3 : -((-t) % 86400) < 0
    · rw [if_pos h3, w64 (by omega) (by omega), w64 (by omega) (by omega), show -((-t) / 86400) - 1 = t / 86400 by omega, show -((-t) % 86400) + 86400 = t % 86400 by omega]
    · rw [if_neg h3, show -((-t) / 86400) = t / 86400 by omega, show -((-t) % 86400) = t % 86400 by omega]
theorem rSplit_f (t : Int) (ht : I64 t) : zoneinforef05_Split.f t = some (t / 86400, t % 86400) := by
  unfold zoneinforef05_Split.f I64 at *
  by_cases h : 0 ≤ t
  · have h2 := (tdm_pos 86400 h).2
    rw [h2, if_neg (by omega), w64 (x := t - t % 86400) (by omega) (by omega), (tdm_pos 86400 (show 0 ≤ t - t % 86400 by omega)).1, w64 (x := (t - t % 86400) / 86400) (by omega) (by omega)]
    refine bnd (show zoneinforef05_boolInt.f false = some 0 from rfl) ?_
    rw [w64 (by omega) (by omega), show (t - t % 86400) / 86400 - 0 = t / 86400 by omega]
  · have h2 := (tdm_neg 86400 (show t < 0 by omega)).2
    rw [h2]
    have e : wrap64 (t - -((-t) % 86400)) = t + (-t) % 86400 := by rw [w64 (by omega) (by omega)]; omega
    rw [e]
    have hd : wrap64 (Int.tdiv (t + (-t) % 86400) 86400) = -((-t) / 86400) := by
      by_cases hz : t + (-t) % 86400 < 0
      · rw [(tdm_neg 86400 hz).1, w64 (by omega) (by omega)]; omega
      · rw [(tdm_pos 86400 (show 0 ≤ t + (-t) % 86400 by omega)).1, w64 (by omega) (by omega)]; omega
    rw [hd]
    by_cases h3 : -((-t) % 86400) < 0
    · rw [if_pos h3]
      refine bnd (show zoneinforef05_boolInt.f true = some 1 from rfl) ?_
      rw [w64 (by omega) (by omega), w64 (by omega) (by omega), show -((-t) / 86400) - 1 = t / 86400 by omega, show -((-t) % 86400) + 86400 = t % 86400 by omega]
    · rw [if_neg h3]
      refine bnd (show zoneinforef05_boolInt.f false = some 0 from rfl) ?_
      rw [w64 (by omega) (by omega), show -((-t) / 86400) - 0 = t / 86400 by omega, show -((-t) % 86400) = t % 86400 by omega]
/-- A date and its day number. -/
def IsDay (day y m d : Int) : Prop := Dt y m d ∧ D y m d = day ∧ -1099511627776 ≤ y ∧ y ≤ 1099511627776
/-- The hour, minute, second, weekday of a timestamp. -/
theorem of_f (t : Int) (ht : I64 t) : ∃ y m d, IsDay (t / 86400) y m d ∧ datetime_Of.f t = some (y, m, d, t % 86400 / 3600, t % 86400 / 60 % 60, t % 86400 % 60, (t / 86400 + 4) % 7) ∧
    ∀ k, 500 ≤ k → zoneinforef05_Of.f k t = some (y, m, d, t % 86400 / 3600, t % 86400 / 60 % 60, t % 86400 % 60, (t / 86400 + 4) % 7) := by
  have hs := split_f t ht
  have hrs := rSplit_f t ht
  unfold I64 at ht
  have hin : InD (t / 86400) := by unfold InD; omega
  have hsec : 0 ≤ t % 86400 ∧ t % 86400 < 86400 := by omega
  have hdr : -400000000000000 ≤ t / 86400 ∧ t / 86400 ≤ 400000000000000 := by omega
  obtain ⟨y, m, d, h1, h2, h3, _⟩ := date_f (t / 86400) hin
  have hlow : D (-1099511627776) 1 1 ≤ t / 86400 ∧ t / 86400 ≤ D 1099511627776 12 31 := by
    have := lp_01 1099511627776
    unfold D J Mz yd; omega
  have hyr := year_of_range hlow h2 h3
  generalize t / 86400 = day at *
  generalize t % 86400 = sec at *
  refine ⟨y, m, d, ⟨h2, h3, hyr.1, hyr.2⟩, ?_, ?_⟩
  · unfold datetime_Of.f
    refine bnd hs ?_
    refine bnd h1 ?_
    refine bnd (weekday_f day (by omega)) ?_
    dsimp only
    rw [Int.tdiv_eq_ediv_of_nonneg hsec.1, Int.tdiv_eq_ediv_of_nonneg hsec.1, Int.tmod_eq_emod_of_nonneg hsec.1, w64 (x := sec / 3600) (by omega) (by omega), w64 (x := sec / 60) (by omega) (by omega), Int.tmod_eq_emod_of_nonneg (by omega)]
  · intro k hk
    obtain ⟨y', m', d', g1, g2, g3, _⟩ := rDate_f day hin k hk
    obtain ⟨rfl, rfl, rfl⟩ := D_inj h2 g2 (h3.trans g3.symm)
    unfold zoneinforef05_Of.f
    refine bnd hrs ?_
    refine bnd g1 ?_
    refine bnd (rWeekday_f day (by omega)) ?_
    dsimp only
    rw [Int.tdiv_eq_ediv_of_nonneg hsec.1, Int.tmod_eq_emod_of_nonneg hsec.1, Int.tmod_eq_emod_of_nonneg hsec.1, w64 (x := sec / 3600) (by omega) (by omega), Int.tdiv_eq_ediv_of_nonneg (by omega), w64 (by omega) (by omega), show sec % 3600 / 60 = sec / 60 % 60 by omega]
theorem yearOf_f (t : Int) (ht : I64 t) (y m d : Int) (h : Dt y m d) (he : D y m d = t / 86400) : datetime_YearOf.f t = some y := by
  obtain ⟨y', m', d', ⟨g1, g2, _⟩, g3, _⟩ := of_f t ht
  obtain ⟨rfl, _, _⟩ := D_inj h g1 (he.trans g2.symm)
  unfold datetime_YearOf.f
  exact bnd g3 rfl
end Go.Proofs.YtmfffkmnddeajaaDoor.Pure
