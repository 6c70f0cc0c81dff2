/- The plain law behind the walk of LayoutMatchesReference. No condition. -/
import Derived.Test.YtnhlnbpkpalgdaaWWords
import Derived.Test.YtnhlnbpkpalgdaaWMore
import Derived.Test.YtnhlnbpkpalgdaaOwn
import Derived.Test.YtnhlnbpkpalgdaaGx4
import Derived.Test.YtnhlnbpkpalgdaaBase
import Derived.Test.YtnhlnbpkpalgdaaSiz
import Derived.Test.YtnhlnbpkpalgdaaLay14
set_option linter.unusedVariables false
set_option linter.unusedSimpArgs false
namespace Go.Proofs.Ytnhlnbpkpalgdaa.Pure
open Go.RowKit Go.Proofs.Ytnhlnbpkpalgdaa.G Go.Proofs.YtnhlnbpkpalgdaaW.PrintWords Go.Proofs.YtnhlnbpkpalgdaaW.PrintLast Go.Proofs.YtnhlnbpkpalgdaaW.PrintMore
theorem LayoutMatchesReference : zoneinfolaw14_LayoutMatchesReference.Pure := by
  intro v ut sd lp tm ty ch b lim w0 w1 w2 w3 w4 w5 w6 w8
  have h : H32 ut sd lp tm ty ch := ⟨wf_u32 w1, wf_u32 w2, wf_u32 w3, wf_u32 w4, wf_u32 w5, wf_u32 w6⟩
  have hl : U lim := wf_u64 w8
  obtain ⟨s, e, hs⟩ := size_f b
  refine ⟨5, ?_⟩
  unfold zoneinfolaw14_LayoutMatchesReference.f
  refine bnd awake14 ?_
  rw [if_pos rfl]
  refine bnd e (bnd (tot_f h hs hl) (bnd (sum_f h hs) ?_))
  have hj : zoneinfolaw14_LayoutMatchesReference.j0 5 s false v ut sd lp tm ty ch = some true := by
    simp only [zoneinfolaw14_LayoutMatchesReference.j0]
    rw [if_neg (by decide)]
    refine bnd (lengths_f h hs) (bnd (rlengths_f h hs) ?_)
    rw [if_pos (by simp)]
    refine bnd (offsets_f h hs) (bnd (roffsets_f h hs) ?_)
    simp
  by_cases hc : Tot ut sd lp tm ty ch s ≤ lim
  · rw [capS_pos hc, decide_eq_true hc]
    dsimp only
    rw [if_neg (by decide), if_pos rfl, if_pos rfl, hj]
  · rw [capS_neg hc, decide_eq_false hc]
    dsimp only
    rw [if_neg (by decide), if_neg (by decide)]
    exact hj
end Go.Proofs.Ytnhlnbpkpalgdaa.Pure
