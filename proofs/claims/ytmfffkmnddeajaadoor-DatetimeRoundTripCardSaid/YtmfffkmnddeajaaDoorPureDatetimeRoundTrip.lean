/- A timestamp's fields give the timestamp back, and what is given for fields has these fields: the plain law behind the walk. No condition. -/
import Derived.Test.YtmfffkmnddeajaaDoorWWords
import Derived.Test.YtmfffkmnddeajaaDoorWMore
import Derived.Test.YtmfffkmnddeajaaDoorOwn
import Derived.Test.YtmfffkmnddeajaaDoorGx9
import Derived.Test.YtmfffkmnddeajaaDoorBase
import Derived.Test.YtmfffkmnddeajaaDoorCal
import Derived.Test.YtmfffkmnddeajaaDoorCal2
import Derived.Test.YtmfffkmnddeajaaDoorCal3
import Derived.Test.YtmfffkmnddeajaaDoorVal
import Derived.Test.YtmfffkmnddeajaaDoorDtm
import Derived.Test.YtmfffkmnddeajaaDoorUnix
set_option linter.unusedVariables false
set_option linter.unusedSimpArgs false
namespace Go.Proofs.YtmfffkmnddeajaaDoor.Pure
open Go.RowKit Go.Proofs.YtmfffkmnddeajaaDoor.G Go.Proofs.YtmfffkmnddeajaaDoorW.PrintWords Go.Proofs.YtmfffkmnddeajaaDoorW.PrintLast Go.Proofs.YtmfffkmnddeajaaDoorW.PrintMore

theorem good_of (t : Int) (h0 : I64 t) (y m d : Int) (h : IsDay (t / 86400) y m d) : Good y m d (t % 86400 / 3600) (t % 86400 / 60 % 60) (t % 86400 % 60) ((t / 86400 + 4) % 7) ∧ T y m d (t % 86400 / 3600) (t % 86400 / 60 % 60) (t % 86400 % 60) = t := by
  obtain ⟨g1, g2, g3⟩ := h
  have e : T y m d (t % 86400 / 3600) (t % 86400 / 60 % 60) (t % 86400 % 60) = t := by
    unfold T Sec; rw [g2]; omega
  refine ⟨⟨⟨g3.1, g3.2, g1⟩, ?_, by rw [g2], by rw [e]; exact h0⟩, e⟩
  unfold Tm; omega
theorem DatetimeRoundTrip : zoneinfolaw05_DatetimeRoundTrip.Pure := by
  intro t y m d h mi s wd h0 _ _ _ _ _ _ _
  have h0 : I64 t := wf_i64 h0
  refine ⟨1000, ?_⟩
  unfold zoneinfolaw05_DatetimeRoundTrip.f
  refine bnd (awake_f _ (by omega)) ?_
  rw [if_pos rfl]
  obtain ⟨y1, m1, d1, hday, g3, g4⟩ := of_f t h0
  obtain ⟨hG1, hT1⟩ := good_of t h0 y1 m1 d1 hday
  refine bnd g3 ?_
  refine bnd ((unix_f _ _ _ _ _ _ _ 1000 (by omega)).1 hG1) ?_
  have u1 := unix_f y m d h mi s wd 1000 (by omega)
  have v1 := rValid_f y1 m1 d1 (t % 86400 / 3600) (t % 86400 / 60 % 60) (t % 86400 % 60) ((t / 86400 + 4) % 7) 1000 (by omega)
  rw [decide_eq_true ⟨hG1.1, hG1.2.1, hG1.2.2.1⟩] at v1
  by_cases hG : Good y m d h mi s wd
  · refine bnd (u1.1 hG) ?_
    rw [if_pos rfl, if_pos hT1]
    refine bnd v1 ?_
    dsimp only
    rw [zoneinfolaw05_DatetimeRoundTrip.j0, if_neg (by decide), if_pos rfl]
    obtain ⟨hd, hT, hw, hI⟩ := hG
    obtain ⟨y2, m2, d2, ⟨k1, k2, _⟩, k3, _⟩ := of_f (T y m d h mi s) hI
    obtain ⟨s0, s1, e1, e2, e3⟩ := sec_in hT
    have f1 : T y m d h mi s / 86400 = D y m d := by unfold T; omega
    have f2 : T y m d h mi s % 86400 = Sec h mi s := by unfold T; omega
    rw [f1] at k2
    obtain ⟨rfl, rfl, rfl⟩ := D_inj k1 hd.2.2 k2
    refine bnd k3 ?_
    dsimp only
    rw [f1, f2, e1, e2, e3, ← hw, if_pos (by simp)]
    have v2 := rValid_f y2 m2 d2 h mi s wd 999 (by omega)
    rw [decide_eq_true ⟨hd, hT, hw⟩] at v2
    exact bnd v2 rfl
  · refine bnd (u1.2 hG) ?_
    rw [if_pos rfl, if_pos hT1]
    refine bnd v1 ?_
    dsimp only
    rw [zoneinfolaw05_DatetimeRoundTrip.j0, if_neg (by decide), if_neg (by decide)]
    rfl
end Go.Proofs.YtmfffkmnddeajaaDoor.Pure
