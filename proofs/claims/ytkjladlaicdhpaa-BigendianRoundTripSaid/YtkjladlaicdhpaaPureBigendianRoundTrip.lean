/- Reading an appended field returns the value modulo its size; the bytes before it are unchanged; a signed value is recovered exactly if it fits: the plain law behind the walk. No condition. -/
import Derived.Test.YtkjladlaicdhpaaWWords
import Derived.Test.YtkjladlaicdhpaaWMore
import Derived.Test.YtkjladlaicdhpaaOwn
import Derived.Test.YtkjladlaicdhpaaGx14
import Derived.Test.YtkjladlaicdhpaaBase
import Derived.Test.YtkjladlaicdhpaaBig
import Derived.Test.YtkjladlaicdhpaaL01
set_option linter.unusedVariables false
namespace Go.Proofs.Ytkjladlaicdhpaa.Pure
open Go.RowKit Go.Proofs.Ytkjladlaicdhpaa.G Go.Proofs.YtkjladlaicdhpaaW.PrintWords Go.Proofs.YtkjladlaicdhpaaW.PrintLast

theorem round2 (l : List Int) (hl : Byt l) (hb : l.length ≤ 1000) (n : Nat) (hn : Wid n) (v s : Int) (hs : -9223372036854775808 ≤ s ∧ s ≤ 9223372036854775807) (k : Nat) (hk : 20 ≤ k) :
    zoneinfolaw01_BigendianRoundTrip.j2 (k + 1) l s n v true v = some true := by
  have hu : 0 ≤ IntKind.u64.wrap s := by rw [u64_def]; omega
  have := hn.le
  simp only [zoneinfolaw01_BigendianRoundTrip.j2]
  refine bnd (append_f l n hn.le _ hu (by omega) _ (by omega)) ?_
  refine bnd (int_f _ (hl.append (enc_byt _ _)) (by rw [List.length_append, enc_length]; omega) _ (by omega) n hn _ (by omega)) ?_
  dsimp only
  rw [if_pos trivial, if_pos trivial, fieldOk_append, if_pos rfl]
  refine bnd (fits_f s n hn) ?_
  rw [fieldV_append, sval_mod n hn, if_pos (by unfold fitsB; simp)]
  exact bnd (fits_f _ n hn) (by rw [fitsB_sval n hn])

theorem BigendianRoundTrip : zoneinfolaw01_BigendianRoundTrip.Pure := by
  intro l a1 a2 a3 h1 h2 h3 h4 h5 h6
  have hl := Byt.of h3
  have w1 := wf_u8 h4
  have w2 := wf_u64 h5
  have w3 := wf_i64 h6
  refine ⟨l.length + 50 + 1 + 1 + 1, ?_⟩
  unfold zoneinfolaw01_BigendianRoundTrip.f
  refine bnd (awake01 _ (by omega)) ?_
  rw [if_pos rfl]
  simp only [zoneinfolaw01_BigendianRoundTrip.j0]
  by_cases hb : (l.length : Int) > 1000
  · rw [if_pos (decide_eq_true hb)]
    exact bnd (awake01 _ (by omega)) rfl
  · rw [if_neg (by rw [decide_eq_true_iff]; exact hb)]
    obtain ⟨n, hn, hw⟩ := width_f a1 w1.1
    have := hn.le
    refine bnd hw ?_
    refine bnd (append_f l n hn.le a2 w2.1 (by omega) _ (by omega)) ?_
    rw [if_pos (by rw [List.length_append, enc_length, w64 (by omega) (by omega)]; omega), if_pos (by omega), if_pos (by rw [List.length_append]; omega)]
    refine bnd (same01_f _ _ (by rw [Int.toNat_natCast, List.take_left]; omega) _ (by rw [Int.toNat_natCast, List.take_left]; omega)) ?_
    rw [Int.toNat_natCast, List.take_left]
    simp only [decide_true, Bool.not_true, zoneinfolaw01_BigendianRoundTrip.j1]
    rw [if_neg (by decide)]
    refine bnd (uint_f _ (hl.append (enc_byt _ _)) (by rw [List.length_append, enc_length]; omega) _ (by omega) n hn.le _ (by omega)) ?_
    rw [fieldOk_append, fieldV_append]
    have hp : (0 : Int) < 256 ^ n := Int.pow_pos (by omega)
    by_cases h8 : (n : Int) < 8
    · obtain ⟨m1, m2⟩ := modulus n hn h8
      rw [if_pos h8, if_pos m1, m2, if_neg (by omega), Int.tmod_eq_emod_of_nonneg w2.1]
      exact round2 l hl (by omega) n hn _ a3 w3 _ (by omega)
    · rw [if_neg h8]
      obtain rfl : n = 8 := by omega
      rw [show a2 % 256 ^ 8 = a2 by omega]
      exact round2 l hl (by omega) 8 hn _ a3 w3 _ (by omega)
end Go.Proofs.Ytkjladlaicdhpaa.Pure
