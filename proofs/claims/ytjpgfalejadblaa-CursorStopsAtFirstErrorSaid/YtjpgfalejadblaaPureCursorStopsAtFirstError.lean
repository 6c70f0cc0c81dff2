/- The plain law behind the walk of CursorStopsAtFirstError. No condition. -/
import Derived.Test.YtjpgfalejadblaaWWords
import Derived.Test.YtjpgfalejadblaaWMore
import Derived.Test.YtjpgfalejadblaaOwn
import Derived.Test.YtjpgfalejadblaaGx19
import Derived.Test.YtjpgfalejadblaaBase
import Derived.Test.YtjpgfalejadblaaBig
import Derived.Test.YtjpgfalejadblaaCur
import Derived.Test.YtjpgfalejadblaaSayCursorStopsAtFirstError
set_option linter.unusedVariables false
set_option linter.unusedSimpArgs false
namespace Go.Proofs.Ytjpgfalejadblaa.Pure
open Go.RowKit Go.Proofs.Ytjpgfalejadblaa.G Go.Proofs.YtjpgfalejadblaaW.PrintWords Go.Proofs.YtjpgfalejadblaaW.PrintLast Go.Proofs.YtjpgfalejadblaaW.PrintMore
theorem stops_j1 (l : List Int) (hl : l.length ≤ 2000) (p e a : Int) (he : e ≠ 0) (x : Int) (hx : 0 ≤ x) (want : List Int) (k : Nat) (hk : 2500 < k) : zoneinfolaw02_CursorStopsAtFirstError.j1 k x want false l p e a = some true := by
  obtain ⟨k, rfl⟩ : ∃ m, k = m + 1 := ⟨k - 1, by omega⟩
  obtain ⟨n, hn, hw⟩ := width_f x hx
  simp only [zoneinfolaw02_CursorStopsAtFirstError.j1]
  rw [if_neg (by decide)]
  refine bnd (take_err he) (bnd hw (bnd (cuint_err he _) (bnd hw (bnd (cint_err he _) ?_))))
  dsimp only
  rw [if_pos (by simp)]
  refine bnd (same02_self l (by omega) _ _ _ _ (by omega)) ?_
  rw [if_pos rfl, if_pos rfl]
  refine bnd (same02_self l (by omega) _ _ _ _ (by omega)) ?_
  rw [if_pos rfl, if_pos rfl]
  refine bnd (same02_self l (by omega) _ _ _ _ (by omega)) ?_
  rw [if_pos rfl]
  refine bnd (expect_err l want p e a 3 he _) (bnd (same02_self l (by omega) _ _ _ _ (by omega)) ?_)
  rw [if_pos rfl]
  refine bnd (fail_err 3 1 he) (bnd (same02_self l (by omega) _ _ _ _ (by omega)) ?_)
  rw [if_pos rfl]
  exact bnd (rest_err he) rfl
theorem CursorStopsAtFirstError : Opn.CursorStopsAtFirstError := by
  intro l p e a n x want w0 w1 w2 w3 w4 w5 w6
  have hx := wf_u8 w5
  have hn := wf_i64 w4
  refine ⟨3003, ?_⟩
  unfold zoneinfolaw02_CursorStopsAtFirstError.f
  refine bnd (awake02 _ (by decide)) ?_
  rw [if_pos rfl]
  refine bnd (valid_f l p e a) ?_
  have hT : ∀ q, zoneinfolaw02_CursorStopsAtFirstError.j0 3003 n x want true q p e a = some true := by
    intro q
    simp only [zoneinfolaw02_CursorStopsAtFirstError.j0]
    rw [if_pos (by decide)]
    exact bnd (awake02 _ (by decide)) rfl
  by_cases hv : 0 ≤ p ∧ p ≤ l.length ∧ (e ≠ 0 ∨ a = 0) ∧ l.length ≤ 2000
  case neg => rw [decide_eq_false hv, if_neg (by decide)]; exact hT l
  rw [decide_eq_true hv, if_pos rfl]
  by_cases hc : (want.length : Int) > 2000
  · rw [decide_eq_true hc]; exact hT l
  rw [decide_eq_false hc]
  obtain ⟨h0, h1, h2, h3⟩ := hv
  simp only [zoneinfolaw02_CursorStopsAtFirstError.j0]
  rw [if_neg (by decide)]
  by_cases he : e = 0
  · by_cases hs : n < 0 ∨ (l.length : Int) - p < n
    · refine bnd (take_short ⟨h0, h1⟩ (by omega) he hs) ?_
      dsimp only
      rw [if_neg (by decide), if_pos he, if_pos rfl, if_pos rfl, if_pos rfl]
      exact stops_j1 l (by omega) p 1 _ (by decide) x hx.1 want _ (by omega)
    · refine bnd (take_ok ⟨h0, h1⟩ (by omega) he (by omega) (by omega)) ?_
      dsimp only
      rw [if_pos he, if_pos (by omega), w64 (by omega) (by omega)]
      simp
  · refine bnd (take_err he) ?_
    dsimp only
    rw [if_neg he, if_neg he]
    refine bnd (same02_self l (by omega) _ _ _ _ (by omega)) ?_
    exact stops_j1 l (by omega) p e a he x hx.1 want _ (by omega)
end Go.Proofs.Ytjpgfalejadblaa.Pure
