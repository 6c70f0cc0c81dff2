/- The plain law behind the walk of HeaderTruncation. No condition. -/
import Derived.Test.YtikgbmldbfgkdaaDoorWWords
import Derived.Test.YtikgbmldbfgkdaaDoorWMore
import Derived.Test.YtikgbmldbfgkdaaDoorOwn
import Derived.Test.YtikgbmldbfgkdaaDoorGx20
import Derived.Test.YtikgbmldbfgkdaaDoorGx21
import Derived.Test.YtikgbmldbfgkdaaDoorGx6
import Derived.Test.YtikgbmldbfgkdaaDoorBase
import Derived.Test.YtikgbmldbfgkdaaDoorBig
import Derived.Test.YtikgbmldbfgkdaaDoorCur
import Derived.Test.YtikgbmldbfgkdaaDoorHdr
set_option linter.unusedVariables false
set_option linter.unusedSimpArgs false
namespace Go.Proofs.YtikgbmldbfgkdaaDoor.Pure
open Go.RowKit Go.Proofs.YtikgbmldbfgkdaaDoor.G Go.Proofs.YtikgbmldbfgkdaaDoorW.PrintWords Go.Proofs.YtikgbmldbfgkdaaDoorW.PrintLast Go.Proofs.YtikgbmldbfgkdaaDoorW.PrintMore
theorem rconsistent (v a b c d e f : Int) : zoneinforef13_Consistent.f v a b c d e f = header_Consistent.f v a b c d e f := by
  unfold zoneinforef13_Consistent.f header_Consistent.f
  rfl
theorem HeaderTruncation : zoneinfolaw13_HeaderTruncation.Pure := by
  intro v a b c d e f x n w0 w1 w2 w3 w4 w5 w6 w7 y1 y2 y3
  have hf := six_bound (wf_u32 w1) (wf_u32 w2) (wf_u32 w3) (wf_u32 w4) (wf_u32 w5) (wf_u32 w6)
  have hx := wf_u8 w7
  refine ⟨1, ?_⟩
  unfold zoneinfolaw13_HeaderTruncation.f
  refine bnd awake13 ?_
  rw [if_pos rfl]
  have hT : zoneinfolaw13_HeaderTruncation.j0 1 x n true v a b c d e f = some true := by
    simp only [zoneinfolaw13_HeaderTruncation.j0]
    rw [if_pos (by decide)]
    exact bnd awake13 rfl
  by_cases h1 : v < 1
  · rw [if_pos h1]; exact hT
  rw [if_neg h1]
  by_cases h2 : v > 4
  · rw [if_pos h2]; exact hT
  rw [if_neg h2]
  obtain ⟨B, hb⟩ := consistent_any v a b c d e f
  refine bnd ((rconsistent v a b c d e f).trans hb) ?_
  cases B with
  | false => rw [if_neg (by decide)]; exact hT
  | true =>
    rw [if_pos rfl]
    by_cases h4 : (n.length : Int) > 500
    · rw [decide_eq_true h4]; exact hT
    rw [decide_eq_false h4]
    simp only [zoneinfolaw13_HeaderTruncation.j0]
    rw [if_neg (by decide)]
    have hv : 1 ≤ v ∧ v ≤ 4 := by omega
    have hE := encH_length v (pick6 a b c d e f)
    have hEB := encH_byt hv (pick6 a b c d e f)
    refine bnd (encode_f hv hf) ?_
    rw [if_pos (by omega), w64 (x := x) (by omega) (by omega), Int.tmod_eq_emod_of_nonneg hx.1]
    obtain ⟨i, hi⟩ := Int.eq_ofNat_of_zero_le (show 0 ≤ x % 44 by omega)
    have hi44 : i < 44 := by omega
    rw [hi, if_pos (by omega), if_pos (by omega), Int.toNat_natCast]
    refine bnd rfl ?_
    dsimp only
    have htl : ((encH v (pick6 a b c d e f)).take i).length = i := by rw [List.length_take]; omega
    rcases dec_total ((encH v (pick6 a b c d e f)).take i) (hEB.take i) (by omega) 0 (by omega) 0 with h | h
    · exact absurd h.1 (by omega)
    obtain ⟨p', e', a', hr, he, ha, h | h⟩ := h
    case inr =>
      refine absurd ⟨v, pick6 a b c d e f, hv, fun j hj hj2 => ?_⟩ h
      rw [Nat.zero_add, rd_nat _ j (by omega), rd_nat _ j (by omega)]
      simp
    obtain ⟨rfl, ha', _⟩ := h
    rw [htl] at ha'
    subst ha'
    refine bnd hr ?_
    rw [if_pos (by rw [hE]; omega)]
    refine bnd rfl ?_
    dsimp only
    have hD := dec_enc hv hf (encH v (pick6 a b c d e f) ++ n) [] n rfl (hEB.append (Byt.of y3)) (by rw [List.length_append, hE]; omega) 0 true hb
    rw [if_pos rfl] at hD
    refine bnd hD ?_
    dsimp only
    rw [if_pos rfl, if_pos rfl, if_pos rfl]
    simp [pick6]
end Go.Proofs.YtikgbmldbfgkdaaDoor.Pure
