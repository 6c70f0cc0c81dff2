/- The fields of a timestamp lie in their ranges, and a second later they are the next ones: the plain law behind the walk. No condition. -/
import Derived.Test.YtmfffkmnddeajaaDoorWWords
import Derived.Test.YtmfffkmnddeajaaDoorWMore
import Derived.Test.YtmfffkmnddeajaaDoorOwn
import Derived.Test.YtmfffkmnddeajaaDoorGx12
import Derived.Test.YtmfffkmnddeajaaDoorBase
import Derived.Test.YtmfffkmnddeajaaDoorCal
import Derived.Test.YtmfffkmnddeajaaDoorCal2
import Derived.Test.YtmfffkmnddeajaaDoorCal3
import Derived.Test.YtmfffkmnddeajaaDoorVal
import Derived.Test.YtmfffkmnddeajaaDoorDtm
import Derived.Test.YtmfffkmnddeajaaDoorUnix
set_option linter.unusedVariables false
namespace Go.Proofs.YtmfffkmnddeajaaDoor.Pure
open Go.RowKit Go.Proofs.YtmfffkmnddeajaaDoor.G Go.Proofs.YtmfffkmnddeajaaDoorW.PrintWords Go.Proofs.YtmfffkmnddeajaaDoorW.PrintLast Go.Proofs.YtmfffkmnddeajaaDoorW.PrintMore

theorem DatetimeFields : zoneinfolaw05_DatetimeFields.Pure := by
  intro t h0
  have h0 : I64 t := wf_i64 h0
  refine ⟨1000, ?_⟩
  unfold zoneinfolaw05_DatetimeFields.f
  refine bnd (awake_f _ (by omega)) ?_
  rw [if_pos rfl]
  by_cases hl : t = 9223372036854775807
  · rw [show (t == 9223372036854775807) = true by simp [hl], zoneinfolaw05_DatetimeFields.j0, if_pos rfl]
    exact bnd (awake_f _ (by omega)) rfl
  rw [show (t == 9223372036854775807) = false by simp [hl], zoneinfolaw05_DatetimeFields.j0, if_neg (by decide)]
  have hI2 : I64 (t + 1) := by unfold I64 at *; omega
  obtain ⟨y, m, d, ⟨hd, he, -⟩, ho, -⟩ := of_f t h0
  obtain ⟨y2, m2, d2, ⟨hd2, he2, -⟩, ho2, -⟩ := of_f (t + 1) hI2
  have h0' := h0
  unfold I64 at h0'
  rw [w64 (x := t + 1) (by omega) (by omega)]
  refine bnd ho ?_
  refine bnd ho2 ?_
  refine bnd (split_f t h0) ?_
  dsimp only
  have hs : 0 ≤ t % 86400 ∧ t % 86400 < 86400 := by omega
  have same : t % 86400 < 86399 → (t + 1) / 86400 = t / 86400 ∧ (t + 1) % 86400 = t % 86400 + 1 := fun h => by omega
  have next : ¬ t % 86400 < 86399 → (t + 1) / 86400 = t / 86400 + 1 ∧ (t + 1) % 86400 = 0 ∧ t % 86400 = 86399 := fun h => by omega
  have day : -200000000000000 ≤ t / 86400 ∧ t / 86400 ≤ 200000000000000 := by omega
  generalize (t + 1) / 86400 = q2 at *
  generalize (t + 1) % 86400 = s2 at *
  generalize t / 86400 = q at *
  generalize t % 86400 = s at *
  rw [w64 (x := s / 3600 * 3600) (by omega) (by omega), w64 (x := s / 60 % 60 * 60) (by omega) (by omega), w64 (x := s / 3600 * 3600 + s / 60 % 60 * 60) (by omega) (by omega), w64 (x := s / 3600 * 3600 + s / 60 % 60 * 60 + s % 60) (by omega) (by omega), if_pos (by omega), if_neg (by omega), if_neg (by omega), if_neg (by omega), if_neg (by omega), if_neg (by omega), decide_eq_false (by omega), zoneinfolaw05_DatetimeFields.j1, if_neg (by decide)]
  rw [w64 (x := s % 60 + 1) (by omega) (by omega), w64 (x := s / 60 % 60 + 1) (by omega) (by omega), w64 (x := s / 3600 + 1) (by omega) (by omega), w64 (x := (q + 4) % 7 + 1) (by omega) (by omega), Int.tmod_eq_emod_of_nonneg (a := (q + 4) % 7 + 1) (by omega)]
  by_cases hc : s < 86399
  · obtain ⟨rfl, rfl⟩ := same hc
    obtain ⟨rfl, rfl, rfl⟩ := D_inj hd2 hd (he2.trans he.symm)
    by_cases h1 : s % 60 < 59
    · rw [if_pos h1, zoneinfolaw05_DatetimeFields.j2, show (s + 1) / 3600 = s / 3600 by omega, show (s + 1) / 60 % 60 = s / 60 % 60 by omega, show (s + 1) % 60 = s % 60 + 1 by omega]
      simp
    rw [if_neg h1]
    by_cases h2 : s / 60 % 60 < 59
    · rw [if_pos h2, zoneinfolaw05_DatetimeFields.j3, show (s + 1) / 3600 = s / 3600 by omega, show (s + 1) / 60 % 60 = s / 60 % 60 + 1 by omega, show (s + 1) % 60 = 0 by omega]
      simp
    rw [if_neg h2, if_pos (by omega), if_pos (by omega), if_pos (by omega)]
  · obtain ⟨rfl, rfl, rfl⟩ := next hc
    rw [if_neg (by omega), if_neg (by omega), if_pos (by omega), if_pos (by omega), if_neg (by omega), if_pos (by omega), if_pos (by omega), show (q + 1 + 4) % 7 = ((q + 4) % 7 + 1) % 7 by omega]
    simp
end Go.Proofs.YtmfffkmnddeajaaDoor.Pure
