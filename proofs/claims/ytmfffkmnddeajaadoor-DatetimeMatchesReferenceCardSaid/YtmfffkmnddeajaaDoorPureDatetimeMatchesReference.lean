/- Timestamps and their fields, both ways, are what the reference says: the plain law behind the walk. No condition. -/
import Derived.Test.YtmfffkmnddeajaaDoorWWords
import Derived.Test.YtmfffkmnddeajaaDoorWMore
import Derived.Test.YtmfffkmnddeajaaDoorOwn
import Derived.Test.YtmfffkmnddeajaaDoorGx3
import Derived.Test.YtmfffkmnddeajaaDoorGx8
import Derived.Test.YtmfffkmnddeajaaDoorGx9
import Derived.Test.YtmfffkmnddeajaaDoorBase
import Derived.Test.YtmfffkmnddeajaaDoorCal
import Derived.Test.YtmfffkmnddeajaaDoorCal2
import Derived.Test.YtmfffkmnddeajaaDoorCal3
import Derived.Test.YtmfffkmnddeajaaDoorVal
import Derived.Test.YtmfffkmnddeajaaDoorDtm
import Derived.Test.YtmfffkmnddeajaaDoorUnix
set_option linter.unusedVariables false
set_option linter.unusedSimpArgs false
namespace Go.Proofs.YtmfffkmnddeajaaDoor.Pure
open Go.RowKit Go.Proofs.YtmfffkmnddeajaaDoor.G Go.Proofs.YtmfffkmnddeajaaDoorW.PrintWords Go.Proofs.YtmfffkmnddeajaaDoorW.PrintLast Go.Proofs.YtmfffkmnddeajaaDoorW.PrintMore

theorem DatetimeMatchesReference : zoneinfolaw05_DatetimeMatchesReference.Pure := by
  intro t y m d h mi s wd h0 _ _ _ _ _ _ _
  have h0 : I64 t := wf_i64 h0
  refine ⟨1000, ?_⟩
  unfold zoneinfolaw05_DatetimeMatchesReference.f
  refine bnd (awake_f _ (by omega)) ?_
  rw [if_pos rfl]
  refine bnd (split_f t h0) ?_
  refine bnd (rSplit_f t h0) ?_
  obtain ⟨y1, m1, d1, ⟨g1, g2, _⟩, g3, g4⟩ := of_f t h0
  have u1 := unix_f y m d h mi s wd 1000 (by omega)
  have u2 := rUnix_f y m d h mi s wd 1000 (by omega)
  have both : ∃ r, datetime_Unix.f 1000 y m d h mi s wd = some r ∧ zoneinforef05_Unix.f 1000 y m d h mi s wd = some r := by
    by_cases hG : Good y m d h mi s wd
    · exact ⟨_, u1.1 hG, u2.1 hG⟩
    · exact ⟨_, u1.2 hG, u2.2 hG⟩
  obtain ⟨r, b1, b2⟩ := both
  refine bnd b1 ?_
  refine bnd b2 ?_
  rw [if_pos rfl, if_pos rfl]
  refine bnd g3 ?_
  refine bnd (g4 1000 (by omega)) ?_
  rw [if_pos (by simp)]
  refine bnd (yearOf_f t h0 y1 m1 d1 g1 g2) ?_
  rw [if_pos rfl, if_pos rfl]
  simp
end Go.Proofs.YtmfffkmnddeajaaDoor.Pure
