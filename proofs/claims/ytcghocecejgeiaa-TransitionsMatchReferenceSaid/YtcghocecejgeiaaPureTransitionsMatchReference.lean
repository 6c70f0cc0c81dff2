/- Lists of times, as bytes and tested, are what the reference says: the plain law behind the walk. No condition. -/
import Derived.Test.YtcghocecejgeiaaWWords
import Derived.Test.YtcghocecejgeiaaWMore
import Derived.Test.YtcghocecejgeiaaOwn
import Derived.Test.YtcghocecejgeiaaGx2
import Derived.Test.YtcghocecejgeiaaGx5
import Derived.Test.YtcghocecejgeiaaBase
import Derived.Test.YtcghocecejgeiaaBig
import Derived.Test.YtcghocecejgeiaaTrans
set_option linter.unusedVariables false
set_option linter.unusedSimpArgs false
namespace Go.Proofs.Ytcghocecejgeiaa.Pure
open Go.RowKit Go.Proofs.Ytcghocecejgeiaa.G Go.Proofs.YtcghocecejgeiaaW.PrintWords Go.Proofs.YtcghocecejgeiaaW.PrintLast Go.Proofs.YtcghocecejgeiaaW.PrintMore

theorem TransitionsMatchReference : zoneinfolaw15_TransitionsMatchReference.Pure := by
  intro b zs wide _ _ hb _ _ hz
  have hb := Byt.of hb
  have hz := I64s.of hz
  refine ⟨3000, ?_⟩
  unfold zoneinfolaw15_TransitionsMatchReference.f
  refine bnd (awake15 _ (by omega)) ?_
  rw [if_pos rfl]
  have far : zoneinfolaw15_TransitionsMatchReference.j0 3000 b zs wide true = some true := by
    rw [zoneinfolaw15_TransitionsMatchReference.j0, if_pos rfl]
    exact bnd (awake15 _ (by omega)) rfl
  split
  · exact far
  by_cases h2 : (zs.length : Int) > 200
  · rw [decide_eq_true h2]; exact far
  rw [decide_eq_false h2, zoneinfolaw15_TransitionsMatchReference.j0, if_neg (by decide)]
  obtain ⟨n, hn, hs⟩ := size_f wide
  refine bnd hs ?_
  have hc := cut_eq hn b (by omega)
  have hle : b.length / n * n ≤ b.length := Nat.div_mul_le_self _ _
  rw [if_neg (by rcases hn with rfl | rfl <;> omega), hc, if_pos (by omega), if_pos (by omega), Int.toNat_natCast]
  have hcl : (b.take (b.length / n * n)).length ≤ 1000 := by rw [List.length_take]; omega
  have hdl : (decs n (b.take (b.length / n * n))).length ≤ 1000 := by rw [decs_length]; rcases hn with rfl | rfl <;> omega
  have hel : (encs n zs).length ≤ 1600 := by rw [encs_length]; rcases hn with rfl | rfl <;> omega
  refine bnd (tdec_f n hn _ (hb.take _) (by omega) _ (by omega)) ?_
  refine bnd (rtdec_f n hn _ (hb.take _) (by omega) _ (by omega)) ?_
  refine bnd (same15_f _ _ (by omega) _ (by omega)) ?_
  rw [if_pos (by simp)]
  refine bnd (tenc_f n hn zs (by omega) _ (by omega)) ?_
  refine bnd (rtenc_f n hn zs (by omega) _ (by omega)) ?_
  refine bnd (same01_f _ _ (by omega) _ (by omega)) ?_
  rw [if_pos (by simp)]
  refine bnd (show transitions_Descent.f zs = some (descW zs) from rfl) ?_
  refine bnd (rdesc_f zs (by omega) _ (by omega)) ?_
  rw [if_pos rfl]
  refine bnd (tfit_f n hn zs (by omega) _ (by omega)) ?_
  refine bnd (rtfit_f n hn zs hz (by omega) _ (by omega)) ?_
  simp
end Go.Proofs.Ytcghocecejgeiaa.Pure
