/- The plain law behind the walk of CursorReadsInOrder. No condition. -/
import Derived.Test.YtjpgfalejadblaaWWords
import Derived.Test.YtjpgfalejadblaaWMore
import Derived.Test.YtjpgfalejadblaaOwn
import Derived.Test.YtjpgfalejadblaaGx1
import Derived.Test.YtjpgfalejadblaaGx15
import Derived.Test.YtjpgfalejadblaaBase
import Derived.Test.YtjpgfalejadblaaBig
import Derived.Test.YtjpgfalejadblaaCur
set_option linter.unusedVariables false
set_option linter.unusedSimpArgs false
namespace Go.Proofs.Ytjpgfalejadblaa.Pure
open Go.RowKit Go.Proofs.Ytjpgfalejadblaa.G Go.Proofs.YtjpgfalejadblaaW.PrintWords Go.Proofs.YtjpgfalejadblaaW.PrintLast Go.Proofs.YtjpgfalejadblaaW.PrintMore
theorem reads_loop (b parts : List Int) (hb : b.length ≤ 1000) (hB : Byt parts) (hp : parts.length ≤ 100) : ∀ (d i k p : Nat), i + d = parts.length → d + 1500 < k → p ≤ b.length →
    zoneinfolaw02_CursorReadsInOrder.l0 k b parts (b.take p) (i : Int) b (p : Int) 0 0 = some true := by
  intro d
  induction d with
  | zero =>
    intro i k p hi hk hpl
    obtain ⟨k, rfl⟩ : ∃ m, k = m + 1 := ⟨k - 1, by omega⟩
    simp only [zoneinfolaw02_CursorReadsInOrder.l0]
    rw [if_neg (by omega)]
    refine bnd (rest_ok ⟨by omega, by omega⟩ (by omega) rfl) (bnd (take_ok ⟨by omega, by omega⟩ (by omega) rfl (by omega) (by omega)) ?_)
    dsimp only
    refine bnd (take_short ⟨by omega, by omega⟩ (by omega) rfl (.inr (by omega))) ?_
    dsimp only
    have e1 : b.take p ++ ((b.drop (p : Int).toNat).take ((b.length : Int) - (p : Int)).toNat) = b := by
      rw [Int.toNat_natCast, List.take_of_length_le (l := b.drop p) (by rw [List.length_drop]; omega), List.take_append_drop]
    rw [if_pos (by rw [List.length_take, List.length_take, List.length_drop]; omega), e1]
    refine bnd (same01_f b b (by omega) _ (by omega)) ?_
    rw [if_pos (by simp), if_pos (by omega), if_pos rfl, if_pos rfl]
    simp
    omega
  | succ d ih =>
    intro i k p hi hk hpl
    obtain ⟨k, rfl⟩ : ∃ m, k = m + 1 := ⟨k - 1, by omega⟩
    simp only [zoneinfolaw02_CursorReadsInOrder.l0]
    rw [if_pos (by omega), if_pos (by omega)]
    have hr := hB.rd (i : Int)
    refine bnd (rest_ok ⟨by omega, by omega⟩ (by omega) rfl) ?_
    obtain ⟨n, hn, hnle⟩ : ∃ n : Nat, mn (wrap64 (Int.tmod (rd parts (i : Int)) 8)) ((b.length : Int) - (p : Int)) = (n : Int) ∧ p + n ≤ b.length := by
      rw [Int.tmod_eq_emod_of_nonneg hr.1, w64 (by omega) (by omega)]
      unfold mn
      split
      · exact ⟨((b.length : Int) - p).toNat, by omega, by omega⟩
      · exact ⟨(rd parts (i : Int) % 8).toNat, by omega, by omega⟩
    rw [hn]
    refine bnd (take_ok ⟨by omega, by omega⟩ (by omega) rfl (by omega) (by omega)) ?_
    dsimp only
    have hlen : ((b.drop (p : Int).toNat).take (n : Int).toNat).length = n := by rw [Int.toNat_natCast, Int.toNat_natCast, List.length_take, List.length_drop]; omega
    rw [hlen, if_pos rfl, if_pos rfl, w64 (x := (p : Int) + (n : Int)) (by omega) (by omega), if_pos rfl]
    refine bnd (rest_ok ⟨by omega, by omega⟩ (by omega) rfl) (bnd (rest_ok ⟨by omega, by omega⟩ (by omega) rfl) ?_)
    rw [w64 (by omega) (by omega), if_pos (by omega), if_pos (by rw [List.length_take]; omega), w64 (by omega) (by omega), show (i : Int) + 1 = ((i + 1 : Nat) : Int) by omega]
    have e1 : b.take p ++ ((b.drop (p : Int).toNat).take (n : Int).toNat) = b.take (p + n) := by
      rw [Int.toNat_natCast, Int.toNat_natCast, List.take_add]
    rw [e1, show (p : Int) + (n : Int) = ((p + n : Nat) : Int) by omega]
    exact ih (i + 1) k (p + n) (by omega) (by omega) hnle
theorem CursorReadsInOrder : zoneinfolaw02_CursorReadsInOrder.Pure := by
  intro b parts h1 h2 h3 h4 h5 h6
  refine ⟨3003, ?_⟩
  unfold zoneinfolaw02_CursorReadsInOrder.f
  refine bnd (awake02 _ (by decide)) ?_
  rw [if_pos rfl]
  have hT : zoneinfolaw02_CursorReadsInOrder.j0 3003 b parts true = some true := by
    simp only [zoneinfolaw02_CursorReadsInOrder.j0]
    rw [if_pos (by decide)]
    exact bnd (awake02 _ (by decide)) rfl
  by_cases hc : (b.length : Int) > 1000
  · rw [if_pos hc]; exact hT
  rw [if_neg hc]
  by_cases hd : (parts.length : Int) > 100
  · rw [decide_eq_true hd]; exact hT
  rw [decide_eq_false hd]
  simp only [zoneinfolaw02_CursorReadsInOrder.j0]
  rw [if_neg (by decide)]
  refine bnd (show cursor_New.f b = some (b, 0, 0, 0) from rfl) ?_
  have := reads_loop b parts (by omega) (Byt.of h6) (by omega) parts.length 0 3002 0 (by omega) (by omega) (by omega)
  simpa using this
end Go.Proofs.Ytjpgfalejadblaa.Pure
