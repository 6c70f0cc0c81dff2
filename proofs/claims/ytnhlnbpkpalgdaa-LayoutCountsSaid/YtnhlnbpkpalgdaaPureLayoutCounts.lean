/- The plain law behind the walk of LayoutCounts. No condition. -/
import Derived.Test.YtnhlnbpkpalgdaaWWords
import Derived.Test.YtnhlnbpkpalgdaaWMore
import Derived.Test.YtnhlnbpkpalgdaaOwn
import Derived.Test.YtnhlnbpkpalgdaaGx5
import Derived.Test.YtnhlnbpkpalgdaaBase
import Derived.Test.YtnhlnbpkpalgdaaSiz
import Derived.Test.YtnhlnbpkpalgdaaLay14
set_option linter.unusedVariables false
set_option linter.unusedSimpArgs false
namespace Go.Proofs.Ytnhlnbpkpalgdaa.Pure
open Go.RowKit Go.Proofs.Ytnhlnbpkpalgdaa.G Go.Proofs.YtnhlnbpkpalgdaaW.PrintWords Go.Proofs.YtnhlnbpkpalgdaaW.PrintLast Go.Proofs.YtnhlnbpkpalgdaaW.PrintMore
theorem half {x : Int} (h : 0 ≤ x ∧ x < 4294967296) : 0 ≤ Int.tmod x 2147483648 ∧ Int.tmod x 2147483648 < 2147483648 ∧ (Int.tmod x 2147483648 + 1) % 4294967296 = Int.tmod x 2147483648 + 1 := by
  rw [Int.tmod_eq_emod_of_nonneg h.1]; omega
theorem LayoutCounts : zoneinfolaw14_LayoutCounts.Pure := by
  intro v ut sd lp tm ty ch b w0 w1 w2 w3 w4 w5 w6
  have q1 := half (wf_u32 w1)
  have q2 := half (wf_u32 w2)
  have q3 := half (wf_u32 w3)
  have q4 := half (wf_u32 w4)
  have q5 := half (wf_u32 w5)
  have q6 := half (wf_u32 w6)
  obtain ⟨s, e, hs⟩ := size_f b
  refine ⟨5, ?_⟩
  unfold zoneinfolaw14_LayoutCounts.f
  refine bnd awake14 ?_
  rw [if_pos rfl]
  refine bnd e ?_
  clear w0 w1 w2 w3 w4 w5 w6
  generalize Int.tmod ut 2147483648 = ut at *
  generalize Int.tmod sd 2147483648 = sd at *
  generalize Int.tmod lp 2147483648 = lp at *
  generalize Int.tmod tm 2147483648 = tm at *
  generalize Int.tmod ty 2147483648 = ty at *
  generalize Int.tmod ch 2147483648 = ch at *
  rw [q1.2.2, q2.2.2, q3.2.2, q4.2.2, q5.2.2, q6.2.2]
  have h : H32 ut sd lp tm ty ch := by unfold H32; omega
  have hA : H32 ut sd lp (tm + 1) ty ch := by unfold H32; omega
  have hB : H32 ut sd lp tm (ty + 1) ch := by unfold H32; omega
  have hC : H32 ut sd lp tm ty (ch + 1) := by unfold H32; omega
  have hD : H32 ut sd (lp + 1) tm ty ch := by unfold H32; omega
  have hE : H32 ut (sd + 1) lp tm ty ch := by unfold H32; omega
  have hF : H32 (ut + 1) sd lp tm ty ch := by unfold H32; omega
  have hN : 0 ≤ Tot ut sd lp tm ty ch s ∧ Tot ut sd lp tm ty ch s < 1000000000000 := by
    have := tm_s h hs
    unfold Tot; omega
  have eA : Tot ut sd lp (tm + 1) ty ch s = Tot ut sd lp tm ty ch s + s + 1 := by unfold Tot; rcases hs with rfl | rfl <;> omega
  have eB : Tot ut sd lp tm (ty + 1) ch s = Tot ut sd lp tm ty ch s + 6 := by unfold Tot; rcases hs with rfl | rfl <;> omega
  have eC : Tot ut sd lp tm ty (ch + 1) s = Tot ut sd lp tm ty ch s + 1 := by unfold Tot; rcases hs with rfl | rfl <;> omega
  have eD : Tot ut sd (lp + 1) tm ty ch s = Tot ut sd lp tm ty ch s + s + 4 := by unfold Tot; rcases hs with rfl | rfl <;> omega
  have eE : Tot ut (sd + 1) lp tm ty ch s = Tot ut sd lp tm ty ch s + 1 := by unfold Tot; rcases hs with rfl | rfl <;> omega
  have eF : Tot (ut + 1) sd lp tm ty ch s = Tot ut sd lp tm ty ch s + 1 := by unfold Tot; rcases hs with rfl | rfl <;> omega
  have eG : Tot ut sd lp tm ty ch 8 = Tot ut sd lp tm ty ch 4 + 4 * tm + 4 * lp := by unfold Tot; omega
  have hN4 : 0 ≤ Tot ut sd lp tm ty ch 4 ∧ Tot ut sd lp tm ty ch 4 < 1000000000000 := by
    have := tm_s h (s := 4) (.inl rfl)
    unfold Tot; omega
  refine bnd (offsets_f h hs) (bnd (offsets_f hA hs) ?_)
  dsimp only
  rw [eA, u64w (x := s) (by omega) (by omega), u64w (x := Tot ut sd lp tm ty ch s + s) (by omega) (by omega), u64w (x := Tot ut sd lp tm ty ch s + s + 1) (by omega) (by omega), if_pos rfl]
  refine bnd (offsets_f hB hs) ?_
  dsimp only
  rw [eB, u64w (x := Tot ut sd lp tm ty ch s + 6) (by omega) (by omega), if_pos rfl]
  refine bnd (offsets_f hC hs) ?_
  dsimp only
  rw [eC, u64w (x := Tot ut sd lp tm ty ch s + 1) (by omega) (by omega), if_pos rfl]
  refine bnd (offsets_f hD hs) ?_
  dsimp only
  rw [eD, u64w (x := Tot ut sd lp tm ty ch s + s + 4) (by omega) (by omega), if_pos rfl]
  refine bnd (offsets_f hE hs) ?_
  dsimp only
  rw [eE, if_pos rfl]
  refine bnd (offsets_f hF hs) ?_
  dsimp only
  rw [eF]
  simp only [zoneinfolaw14_LayoutCounts.j0]
  rw [if_neg (by simp)]
  refine bnd (offsets_f h (.inr rfl)) (bnd (offsets_f h (.inl rfl)) ?_)
  dsimp only
  rw [eG, u64w (x := tm) (by omega) (by omega), u64w (x := lp) (by omega) (by omega), u64w (x := 4 * tm) (by omega) (by omega), u64w (x := 4 * lp) (by omega) (by omega), u64w (x := Tot ut sd lp tm ty ch 4 + 4 * tm) (by omega) (by omega), u64w (x := Tot ut sd lp tm ty ch 4 + 4 * tm + 4 * lp) (by omega) (by omega)]
  simp
end Go.Proofs.Ytnhlnbpkpalgdaa.Pure
