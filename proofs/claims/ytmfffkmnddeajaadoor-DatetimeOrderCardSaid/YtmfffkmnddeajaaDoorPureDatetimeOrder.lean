/- Timestamps are ordered as their days and seconds are; a day later has the same time of day and the next weekday: the plain law behind the walk. No condition. -/
import Derived.Test.YtmfffkmnddeajaaDoorWWords
import Derived.Test.YtmfffkmnddeajaaDoorWMore
import Derived.Test.YtmfffkmnddeajaaDoorOwn
import Derived.Test.YtmfffkmnddeajaaDoorGx10
import Derived.Test.YtmfffkmnddeajaaDoorBase
import Derived.Test.YtmfffkmnddeajaaDoorCal
import Derived.Test.YtmfffkmnddeajaaDoorCal2
import Derived.Test.YtmfffkmnddeajaaDoorCal3
import Derived.Test.YtmfffkmnddeajaaDoorVal
import Derived.Test.YtmfffkmnddeajaaDoorDtm
import Derived.Test.YtmfffkmnddeajaaDoorUnix
set_option linter.unusedVariables false
namespace Go.Proofs.YtmfffkmnddeajaaDoor.Pure
open Go.RowKit Go.Proofs.YtmfffkmnddeajaaDoor.G Go.Proofs.YtmfffkmnddeajaaDoorW.PrintWords Go.Proofs.YtmfffkmnddeajaaDoorW.PrintLast Go.Proofs.YtmfffkmnddeajaaDoorW.PrintMore

theorem order_j1 (t : Int) (hI : I64 t) (k : Nat) : zoneinfolaw05_DatetimeOrder.j1 (k + 1) t false = some true := by
  rw [zoneinfolaw05_DatetimeOrder.j1, if_neg (by decide)]
  have h0 := hI
  unfold I64 at h0
  split
  · rfl
  obtain ⟨y, m, d, -, ho, -⟩ := of_f t hI
  have hI2 : I64 (t + 86400) := by unfold I64; omega
  obtain ⟨y2, m2, d2, -, ho2, -⟩ := of_f (t + 86400) hI2
  refine bnd ho ?_
  rw [w64 (x := t + 86400) (by omega) (by omega)]
  refine bnd ho2 ?_
  dsimp only
  have e1 : (t + 86400) % 86400 = t % 86400 := by omega
  have e2 : (t + 86400) / 86400 = t / 86400 + 1 := by omega
  rw [e1, e2, if_pos rfl, if_pos rfl, if_pos rfl, w64 (by omega) (by omega), Int.tmod_eq_emod_of_nonneg (by omega), show (t / 86400 + 1 + 4) % 7 = ((t / 86400 + 4) % 7 + 1) % 7 by omega]
  simp
theorem order_j0 (t : Int) (hI : I64 t) (k : Nat) : zoneinfolaw05_DatetimeOrder.j0 (k + 2) t (t / 86400) (t % 86400) false = some true := by
  rw [zoneinfolaw05_DatetimeOrder.j0, if_neg (by decide)]
  have h0 := hI
  unfold I64 at h0
  split
  · rw [w64 (x := t / 86400 + 1) (by omega) (by omega), w64 (x := (t / 86400 + 1) * 86400) (by omega) (by omega), w64 (x := t % 86400 - 86400) (by omega) (by omega), w64 (by omega) (by omega), if_pos (by omega), if_neg (by omega)]
    exact order_j1 t hI k
  · rw [if_pos (by omega), w64 (x := t / 86400 * 86400) (by omega) (by omega), w64 (by omega) (by omega), show t / 86400 * 86400 + t % 86400 = t by omega, show (t != t) = false by simp]
    exact order_j1 t hI k
theorem DatetimeOrder : zoneinfolaw05_DatetimeOrder.Pure := by
  intro t u h0 h1
  have h0 : I64 t := wf_i64 h0
  have h1 : I64 u := wf_i64 h1
  refine ⟨1000, ?_⟩
  unfold zoneinfolaw05_DatetimeOrder.f
  refine bnd (awake_f _ (by omega)) ?_
  rw [if_pos rfl]
  refine bnd (split_f t h0) ?_
  refine bnd (split_f u h1) ?_
  dsimp only
  have hj := order_j0 t h0 998
  have a1 : t / 86400 < u / 86400 → t < u := fun h => by omega
  have a2 : t / 86400 = u / 86400 → ((t < u ↔ t % 86400 < u % 86400) ∧ (t = u ↔ t % 86400 = u % 86400)) := fun h => by omega
  have a3 : u / 86400 < t / 86400 → u < t := fun h => by omega
  rw [if_neg (by omega), if_neg (by omega)]
  split
  · rename_i h
    have := a1 h
    rw [decide_eq_true this, if_neg (by decide), if_neg (by omega), show (t == u) = false by simp; omega]
    exact hj
  split
  · rename_i h
    have := a2 h
    have e : decide (t < u) = decide (t % 86400 < u % 86400) := decide_eq_decide.2 this.1
    have e2 : (t == u) = (t % 86400 == u % 86400) := by
      rw [Bool.eq_iff_iff, beq_iff_eq, beq_iff_eq]; exact this.2
    rw [e, e2]
    simp only [bne_self_eq_false, Bool.false_eq_true, if_false]
    exact hj
  · have := a3 (by omega)
    rw [decide_eq_false (show ¬ t < u by omega), if_neg (by decide), show (t == u) = false by simp; omega]
    exact hj
end Go.Proofs.YtmfffkmnddeajaaDoor.Pure
