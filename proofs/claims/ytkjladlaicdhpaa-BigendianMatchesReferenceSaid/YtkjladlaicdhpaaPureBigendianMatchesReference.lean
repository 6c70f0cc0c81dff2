/- For every byte slice, offset, width and value the functions of bigendian return what the reference returns: the plain law behind the walk. No condition. -/
import Derived.Test.YtkjladlaicdhpaaWWords
import Derived.Test.YtkjladlaicdhpaaWMore
import Derived.Test.YtkjladlaicdhpaaOwn
import Derived.Test.YtkjladlaicdhpaaGx13
import Derived.Test.YtkjladlaicdhpaaBase
import Derived.Test.YtkjladlaicdhpaaBig
import Derived.Test.YtkjladlaicdhpaaL01
set_option linter.unusedVariables false
namespace Go.Proofs.Ytkjladlaicdhpaa.Pure
open Go.RowKit Go.Proofs.Ytkjladlaicdhpaa.G Go.Proofs.YtkjladlaicdhpaaW.PrintWords Go.Proofs.YtkjladlaicdhpaaW.PrintLast

theorem BigendianMatchesReference : zoneinfolaw01_BigendianMatchesReference.Pure := by
  intro l a1 a2 a3 a4 h1 h2 h3 h4 h5 h6 h7
  have hl := Byt.of h3
  have w1 := wf_i64 h4
  have w2 := wf_u8 h5
  have w3 := wf_u64 h6
  have w4 := wf_i64 h7
  refine ⟨l.length + 50 + 1, ?_⟩
  unfold zoneinfolaw01_BigendianMatchesReference.f
  refine bnd (awake01 _ (by omega)) ?_
  rw [if_pos rfl]
  simp only [zoneinfolaw01_BigendianMatchesReference.j0]
  by_cases hb : (l.length : Int) > 1000
  · rw [if_pos (decide_eq_true hb)]
    exact bnd (awake01 _ (by omega)) rfl
  · rw [if_neg (by rw [decide_eq_true_iff]; exact hb)]
    obtain ⟨n, hn, hw⟩ := width_f a2 w2.1
    have hlen : l.length ≤ 4611686018427387904 := by omega
    refine bnd hw ?_
    refine bnd (uint_f l hl hlen a1 w1 n hn.le _ (by omega)) ?_
    refine bnd (ruint_f l hl hlen a1 w1 n hn.le _ (by omega)) ?_
    refine bnd (int_f l hl hlen a1 w1 n hn _ (by omega)) ?_
    refine bnd (rint_f l hl hlen a1 w1 n hn _ (by omega)) ?_
    dsimp only
    rw [if_pos rfl, if_pos (by simp), if_pos rfl, if_pos (by simp)]
    refine bnd (append_f l n hn.le a3 w3.1 (by omega) _ (by omega)) ?_
    refine bnd (rappend_f l n hn.le a3 w3.1 w3.2 (by omega) _ (by omega)) ?_
    have := hn.le
    refine bnd (same01_f _ _ (by rw [List.length_append, enc_length]; omega) _ (by rw [List.length_append, enc_length]; omega)) ?_
    rw [if_pos (by simp)]
    refine bnd (fits_f a4 n hn) ?_
    refine bnd (rfits_f a4 w4 n hn _ (by omega)) ?_
    simp
end Go.Proofs.Ytkjladlaicdhpaa.Pure
