/- The bytes of joined lists of times are the joined bytes, and writing into a result changes no argument: the plain law behind the walk. No condition. -/
import Derived.Test.YtcghocecejgeiaaWWords
import Derived.Test.YtcghocecejgeiaaWMore
import Derived.Test.YtcghocecejgeiaaOwn
import Derived.Test.YtcghocecejgeiaaGx8
import Derived.Test.YtcghocecejgeiaaBase
import Derived.Test.YtcghocecejgeiaaBig
import Derived.Test.YtcghocecejgeiaaTrans
set_option linter.unusedVariables false
set_option linter.unusedSimpArgs false
namespace Go.Proofs.Ytcghocecejgeiaa.Pure
open Go.RowKit Go.Proofs.Ytcghocecejgeiaa.G Go.Proofs.YtcghocecejgeiaaW.PrintWords Go.Proofs.YtcghocecejgeiaaW.PrintLast Go.Proofs.YtcghocecejgeiaaW.PrintMore

theorem concat_loop (x y d0 : List Int) (hx : x.length ≤ 1000) (hy : y.length ≤ 1000) (m : Nat) (hm : m ≤ 1000) : ∀ (c i k : Nat) (d : List Int), i + c = m → d.length = m → c + 2100 < k → zoneinfolaw15_TransitionsConcatenate.l0 k x y (x ++ y) d i = some true := by
  intro c
  induction c with
  | zero =>
    intro i k d hi hd hk
    obtain ⟨k, rfl⟩ : ∃ j, k = j + 1 := ⟨k - 1, by omega⟩
    rw [zoneinfolaw15_TransitionsConcatenate.l0, if_neg (by omega)]
    refine bnd rfl ?_
    rw [if_pos (by simp; omega)]
    refine bnd rfl ?_
    rw [if_pos (by simp; omega), List.nil_append]
    refine bnd (same01_f _ _ (by simp; omega) _ (by simp; omega)) ?_
    simp
  | succ c ih =>
    intro i k d hi hd hk
    obtain ⟨k, rfl⟩ : ∃ j, k = j + 1 := ⟨k - 1, by omega⟩
    rw [zoneinfolaw15_TransitionsConcatenate.l0, if_pos (by omega), if_pos (by omega), w64 (by omega) (by omega), show (i : Int) + 1 = ((i + 1 : Nat) : Int) by omega]
    exact ih (i + 1) k _ (by omega) (by rw [List.length_set]; exact hd) (by omega)
theorem TransitionsConcatenate : zoneinfolaw15_TransitionsConcatenate.Pure := by
  intro a b wide _ _ ha _ _ hb
  refine ⟨8000, ?_⟩
  unfold zoneinfolaw15_TransitionsConcatenate.f
  refine bnd (awake15 _ (by omega)) ?_
  rw [if_pos rfl]
  have far : zoneinfolaw15_TransitionsConcatenate.j0 8000 a b wide true = some true := by
    rw [zoneinfolaw15_TransitionsConcatenate.j0, if_pos rfl]
    exact bnd (awake15 _ (by omega)) rfl
  split
  · exact far
  by_cases h2 : (b.length : Int) > 100
  · rw [decide_eq_true h2]; exact far
  rw [decide_eq_false h2, zoneinfolaw15_TransitionsConcatenate.j0, if_neg (by decide)]
  obtain ⟨n, hn, hs⟩ := size_f wide
  refine bnd hs ?_
  have hla : (encs n a).length ≤ 800 := by rw [encs_length]; rcases hn with rfl | rfl <;> omega
  have hlb : (encs n b).length ≤ 800 := by rw [encs_length]; rcases hn with rfl | rfl <;> omega
  refine bnd rfl ?_
  rw [if_pos (by simp; omega)]
  refine bnd rfl ?_
  rw [if_pos (by simp; omega), List.nil_append]
  refine bnd (tenc_f n hn a (by omega) _ (by omega)) ?_
  refine bnd (tenc_f n hn b (by omega) _ (by omega)) ?_
  refine bnd rfl ?_
  rw [if_pos (by simp; omega)]
  refine bnd rfl ?_
  rw [if_pos (by simp; omega), List.nil_append]
  refine bnd rfl ?_
  refine bnd (tenc_f n hn (a ++ b) (by rw [List.length_append]; omega) _ (by rw [List.length_append]; omega)) ?_
  rw [encs_append]
  refine bnd (same01_f _ _ (by simp; omega) _ (by simp; omega)) ?_
  rw [if_pos (by simp)]
  refine bnd (tdec_f n hn _ ((encs_byt n a).append (encs_byt n b)) (by simp; omega) _ (by simp; omega)) ?_
  have hd : (decs n (encs n a ++ encs n b)).length ≤ 1000 := by
    rw [decs_length, List.length_append]; rcases hn with rfl | rfl <;> omega
  exact concat_loop _ _ [] (by omega) (by omega) _ hd _ 0 _ _ (Nat.zero_add _) rfl (by omega)
end Go.Proofs.Ytcghocecejgeiaa.Pure
