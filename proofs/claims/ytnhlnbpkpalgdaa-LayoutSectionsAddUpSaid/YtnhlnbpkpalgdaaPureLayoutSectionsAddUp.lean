/- The plain law behind the walk of LayoutSectionsAddUp. No condition. -/
import Derived.Test.YtnhlnbpkpalgdaaWWords
import Derived.Test.YtnhlnbpkpalgdaaWMore
import Derived.Test.YtnhlnbpkpalgdaaOwn
import Derived.Test.YtnhlnbpkpalgdaaGx4
import Derived.Test.YtnhlnbpkpalgdaaBase
import Derived.Test.YtnhlnbpkpalgdaaSiz
import Derived.Test.YtnhlnbpkpalgdaaLay14
set_option linter.unusedVariables false
set_option linter.unusedSimpArgs false
namespace Go.Proofs.Ytnhlnbpkpalgdaa.Pure
open Go.RowKit Go.Proofs.Ytnhlnbpkpalgdaa.G Go.Proofs.YtnhlnbpkpalgdaaW.PrintWords Go.Proofs.YtnhlnbpkpalgdaaW.PrintLast Go.Proofs.YtnhlnbpkpalgdaaW.PrintMore
theorem LayoutSectionsAddUp : zoneinfolaw14_LayoutSectionsAddUp.Pure := by
  intro v ut sd lp tm ty ch b w0 w1 w2 w3 w4 w5 w6
  have h : H32 ut sd lp tm ty ch := ⟨wf_u32 w1, wf_u32 w2, wf_u32 w3, wf_u32 w4, wf_u32 w5, wf_u32 w6⟩
  obtain ⟨s, e, hs⟩ := size_f b
  have hu := tot_U h hs
  refine ⟨s, _, _, _, _, _, _, _, _, _, _, _, _, _, _, _, 0, awake14, e, offsets_f h hs, lengths_f h hs, rfl, ?_, ?_, fun hz => ?_⟩
  · have ht := tm_s h hs
    unfold Tot
    unfold H32 at h
    generalize tm * s = x at ht ⊢
    generalize lp * (s + 4) = y at ht ⊢
    intro k hk
    have hk7 : k = 0 ∨ k = 1 ∨ k = 2 ∨ k = 3 ∨ k = 4 ∨ k = 5 ∨ k = 6 := by omega
    rcases hk7 with rfl | rfl | rfl | rfl | rfl | rfl | rfl <;> simp only [Nat.reduceAdd, Nat.zero_add, pick7, pick8] <;> refine ⟨?_, by omega⟩ <;> rw [u64w (by omega) (by omega)] <;> omega
  · rw [tot_f h hs hu, capS_pos (Int.le_refl _)]
  · unfold U at hu
    have e1 : IntKind.u64.wrap (Tot ut sd lp tm ty ch s - 1) = Tot ut sd lp tm ty ch s - 1 := u64w (by omega) (by omega)
    rw [e1, tot_f h hs (by unfold U; omega), capS_neg (by omega)]
end Go.Proofs.Ytnhlnbpkpalgdaa.Pure
