/- Append does not write into the spare capacity of its argument, and its result does not alias it: the plain law behind the walk. No condition. -/
import Derived.Test.YtkjladlaicdhpaaWWords
import Derived.Test.YtkjladlaicdhpaaWMore
import Derived.Test.YtkjladlaicdhpaaOwn
import Derived.Test.YtkjladlaicdhpaaGx16
import Derived.Test.YtkjladlaicdhpaaBase
import Derived.Test.YtkjladlaicdhpaaBig
import Derived.Test.YtkjladlaicdhpaaL01
set_option linter.unusedVariables false
namespace Go.Proofs.Ytkjladlaicdhpaa.Pure
open Go.RowKit Go.Proofs.Ytkjladlaicdhpaa.G Go.Proofs.YtkjladlaicdhpaaW.PrintWords Go.Proofs.YtkjladlaicdhpaaW.PrintLast

theorem keeps_loop (l : List Int) (hb : l.length ≤ 1000) : ∀ (d i k : Nat) (x : List Int), x.length ≤ 2000 → i + d = x.length → d + 1100 < k →
    zoneinfolaw01_BigendianKeepsArguments.l0 k l (l ++ [77, 78, 79, 80, 81, 82, 83, 84]) l x i = some true := by
  intro d
  induction d with
  | zero =>
    intro i k x hx hi hk
    obtain ⟨k, rfl⟩ : ∃ m, k = m + 1 := ⟨k - 1, by omega⟩
    simp only [zoneinfolaw01_BigendianKeepsArguments.l0]
    rw [if_neg (by omega)]
    refine bnd (same01_f l l (by omega) k (by omega)) ?_
    rw [if_pos (by simp), if_pos (by omega), if_pos (by simp only [List.length_append, List.length_cons, List.length_nil]; omega), rd_append_right _ _ _ (by omega), Int.sub_self, if_pos (by decide), w64 (by omega) (by omega), if_pos (by omega),
      if_pos (by simp only [List.length_append, List.length_cons, List.length_nil]; omega), rd_append_right _ _ _ (by omega), show (l.length : Int) + 7 - l.length = 7 by omega]
    decide
  | succ d ih =>
    intro i k x hx hi hk
    obtain ⟨k, rfl⟩ : ∃ m, k = m + 1 := ⟨k - 1, by omega⟩
    simp only [zoneinfolaw01_BigendianKeepsArguments.l0]
    rw [if_pos (by omega), if_pos (by omega), w64 (by omega) (by omega), show (i : Int) + 1 = ((i + 1 : Nat) : Int) by omega]
    exact ih (i + 1) k _ (by rw [List.length_set]; omega) (by rw [List.length_set]; omega) (by omega)
theorem BigendianKeepsArguments : zoneinfolaw01_BigendianKeepsArguments.Pure := by
  intro l a1 a2 h1 h2 h3 h4 h5
  have w1 := wf_u8 h4
  have w2 := wf_u64 h5
  refine ⟨5000 + 1, ?_⟩
  unfold zoneinfolaw01_BigendianKeepsArguments.f
  refine bnd (awake01 _ (by omega)) ?_
  rw [if_pos rfl]
  simp only [zoneinfolaw01_BigendianKeepsArguments.j0]
  by_cases hb : (l.length : Int) > 1000
  · rw [if_pos (decide_eq_true hb)]
    exact bnd (awake01 _ (by omega)) rfl
  · rw [if_neg (by rw [decide_eq_true_iff]; exact hb)]
    refine bnd rfl ?_
    rw [if_pos (by simp; omega)]
    refine bnd rfl ?_
    refine bnd rfl ?_
    rw [if_pos (by simp; omega)]
    refine bnd rfl ?_
    rw [if_pos (by omega), if_pos (by simp; omega)]
    refine bnd rfl ?_
    obtain ⟨n, hn, hw⟩ := width_f a1 w1.1
    have := hn.le
    refine bnd hw ?_
    rw [List.nil_append, Int.toNat_natCast, List.take_left]
    refine bnd (append_f l n hn.le a2 w2.1 (by omega) _ (by omega)) ?_
    exact keeps_loop l (by omega) (l ++ enc n a2).length 0 5000 _ (by rw [List.length_append, enc_length]; omega) (by omega) (by rw [List.length_append, enc_length]; omega)
end Go.Proofs.Ytkjladlaicdhpaa.Pure
