/- The plain law behind the walk of LayoutIsMonotone. No condition. -/
import Derived.Test.YtnhlnbpkpalgdaaWWords
import Derived.Test.YtnhlnbpkpalgdaaWMore
import Derived.Test.YtnhlnbpkpalgdaaOwn
import Derived.Test.YtnhlnbpkpalgdaaGx6
import Derived.Test.YtnhlnbpkpalgdaaBase
import Derived.Test.YtnhlnbpkpalgdaaSiz
import Derived.Test.YtnhlnbpkpalgdaaLay14
set_option linter.unusedVariables false
set_option linter.unusedSimpArgs false
namespace Go.Proofs.Ytnhlnbpkpalgdaa.Pure
open Go.RowKit Go.Proofs.Ytnhlnbpkpalgdaa.G Go.Proofs.YtnhlnbpkpalgdaaW.PrintWords Go.Proofs.YtnhlnbpkpalgdaaW.PrintLast Go.Proofs.YtnhlnbpkpalgdaaW.PrintMore
theorem mx_le (a b : Int) : a ≤ mx a b ∧ b ≤ mx a b ∧ (mx a b = a ∨ mx a b = b) := by unfold mx; split <;> omega
theorem LayoutIsMonotone : zoneinfolaw14_LayoutIsMonotone.Pure := by
  intro v ut sd lp tm ty ch v' ut' sd' lp' tm' ty' ch' b lim w0 w1 w2 w3 w4 w5 w6 x0 x1 x2 x3 x4 x5 x6 w8
  have h : H32 ut sd lp tm ty ch := ⟨wf_u32 w1, wf_u32 w2, wf_u32 w3, wf_u32 w4, wf_u32 w5, wf_u32 w6⟩
  have h' : H32 ut' sd' lp' tm' ty' ch' := ⟨wf_u32 x1, wf_u32 x2, wf_u32 x3, wf_u32 x4, wf_u32 x5, wf_u32 x6⟩
  have hl : U lim := wf_u64 w8
  have m1 := mx_le ut ut'
  have m2 := mx_le sd sd'
  have m3 := mx_le lp lp'
  have m4 := mx_le tm tm'
  have m5 := mx_le ty ty'
  have m6 := mx_le ch ch'
  obtain ⟨s, e, hs⟩ := size_f b
  unfold zoneinfolaw14_LayoutIsMonotone.f
  refine bnd awake14 ?_
  rw [if_pos rfl]
  generalize mx ut ut' = U1 at *
  generalize mx sd sd' = U2 at *
  generalize mx lp lp' = U3 at *
  generalize mx tm tm' = U4 at *
  generalize mx ty ty' = U5 at *
  generalize mx ch ch' = U6 at *
  have hm : H32 U1 U2 U3 U4 U5 U6 := by unfold H32 at *; omega
  have hle : Tot ut sd lp tm ty ch s ≤ Tot U1 U2 U3 U4 U5 U6 s := by
    unfold Tot
    rcases hs with rfl | rfl <;> omega
  refine bnd e (bnd (tot_f hm hs hl) (bnd (tot_f h hs hl) ?_))
  by_cases hc : Tot U1 U2 U3 U4 U5 U6 s ≤ lim
  · rw [capS_pos hc, capS_pos (by omega)]
    dsimp only
    rw [if_pos rfl, if_pos rfl, if_pos hle, decide_eq_true hc]
  · rw [capS_neg hc]
    rfl
end Go.Proofs.Ytnhlnbpkpalgdaa.Pure
