/- The plain law behind the walk of CursorExpectMatches. No condition. -/
import Derived.Test.YtjpgfalejadblaaWWords
import Derived.Test.YtjpgfalejadblaaWMore
import Derived.Test.YtjpgfalejadblaaOwn
import Derived.Test.YtjpgfalejadblaaGx20
import Derived.Test.YtjpgfalejadblaaBase
import Derived.Test.YtjpgfalejadblaaBig
import Derived.Test.YtjpgfalejadblaaCur
import Derived.Test.YtjpgfalejadblaaSayCursorExpectMatches
set_option linter.unusedVariables false
set_option linter.unusedSimpArgs false
namespace Go.Proofs.Ytjpgfalejadblaa.Pure
open Go.RowKit Go.Proofs.Ytjpgfalejadblaa.G Go.Proofs.YtjpgfalejadblaaW.PrintWords Go.Proofs.YtjpgfalejadblaaW.PrintLast Go.Proofs.YtjpgfalejadblaaW.PrintMore
theorem CursorExpectMatches : Opn.CursorExpectMatches := by
  intro l p e a x y z w0 w1 w2 w3 w4 w5 w6
  have hx := wf_u8 w4
  have hy := wf_u8 w5
  have hz := wf_u8 w6
  have hB : Byt l := Byt.of w0.2
  refine ⟨3003, ?_⟩
  unfold zoneinfolaw02_CursorExpectMatches.f
  refine bnd (awake02 _ (by decide)) ?_
  rw [if_pos rfl]
  refine bnd (valid_f l p e a) ?_
  have hT : zoneinfolaw02_CursorExpectMatches.j0 3003 x y z true l p e a = some true := by
    simp only [zoneinfolaw02_CursorExpectMatches.j0]
    rw [if_pos (by decide)]
    exact bnd (awake02 _ (by decide)) rfl
  by_cases hv : 0 ≤ p ∧ p ≤ l.length ∧ (e ≠ 0 ∨ a = 0) ∧ l.length ≤ 2000
  case neg => rw [decide_eq_false hv, if_neg (by decide)]; exact hT
  rw [decide_eq_true hv, if_pos rfl]
  by_cases he : e = 0
  case neg => rw [show (e != 0) = true from bne_iff_ne.mpr he]; exact hT
  obtain ⟨h0, h1, h2, h3⟩ := hv
  subst he
  obtain ⟨q, rfl⟩ := Int.eq_ofNat_of_zero_le h0
  obtain ⟨m, hm, hmle⟩ : ∃ m : Nat, mn (wrap64 x) (wrap64 ((l.length : Int) - (q : Int))) = (m : Int) ∧ q + m ≤ l.length := by
    rw [w64 (x := x) (by omega) (by omega), w64 (x := (l.length : Int) - (q : Int)) (by omega) (by omega)]
    unfold mn
    split
    · exact ⟨((l.length : Int) - q).toNat, by omega, by omega⟩
    · exact ⟨x.toNat, by omega, by omega⟩
  rw [show ((0 : Int) != 0) = false from rfl]
  simp only [zoneinfolaw02_CursorExpectMatches.j0, hm]
  have e1 : wrap64 ((q : Int) + (m : Int)) = ((q + m : Nat) : Int) := by rw [w64 (by omega) (by omega)]; omega
  rw [if_neg (by decide)]
  refine bnd rfl ?_
  rw [e1, if_pos (by omega), if_pos (by omega), if_pos (by omega), List.nil_append, List.length_nil]
  have ew : (l.take (((q + m : Nat) : Int)).toNat).drop ((q : Int)).toNat = (l.drop q).take m := by
    rw [Int.toNat_natCast, Int.toNat_natCast, List.drop_take, show q + m - q = m by omega]
  rw [ew]
  have hlen : ((l.drop q).take m).length = m := by rw [List.length_take, List.length_drop]; omega
  rw [hlen, if_pos (by omega)]
  refine bnd rfl ?_
  have hrd : ∀ j : Nat, j < m → rd l ((q + j : Nat) : Int) = rd ((l.drop q).take m) (j : Int) := by
    intro j hj
    rw [rd_nat l _ (by omega), rd_nat _ _ (by omega)]
    simp
  have hE := expect_yes l ((l.drop q).take m) (by omega) q (by omega) 0 a 3 rfl (by rw [hlen]; exact hrd) 3002 (by omega)
  rw [hlen] at hE
  refine bnd hE ?_
  dsimp only
  rw [if_pos rfl, show ((q : Int) + (m : Int) != ((q + m : Nat) : Int)) = false by simp]
  simp only [zoneinfolaw02_CursorExpectMatches.j1]
  rw [if_neg (by decide)]
  by_cases hm0 : (m : Int) = 0
  · rw [if_pos hm0]
  rw [if_neg hm0]
  by_cases hz0 : z = 0
  · rw [if_pos hz0]
  rw [if_neg hz0]
  obtain ⟨i, hi, hilt⟩ : ∃ i : Nat, Int.tmod (wrap64 y) (m : Int) = (i : Int) ∧ i < m := by
    rw [w64 (x := y) (by omega) (by omega), Int.tmod_eq_emod_of_nonneg hy.1]
    have a1 := Int.emod_nonneg y hm0
    have a2 := Int.emod_lt_of_pos y (show (0 : Int) < m by omega)
    exact ⟨(y % (m : Int)).toNat, by omega, by omega⟩
  rw [hi, if_pos (by omega), hlen, if_pos (by omega), Int.toNat_natCast]
  have hb := ((hB.drop q).take m).rd (i : Int)
  generalize hc : (rd ((l.drop q).take m) (i : Int) + z) % 256 = c
  have hl2 : (((l.drop q).take m).set i c).length = m := by rw [List.length_set, hlen]
  have hN := expect_no l (((l.drop q).take m).set i c) (by omega) q (by omega) 0 a 5 rfl (by decide) i (by omega)
    (fun j hj => by
      rw [hrd j (by omega), rd_nat _ _ (by omega), rd_nat _ _ (by omega), List.getElem_set_ne (by omega)])
    (by
      rw [hrd i hilt]
      have : rd (((l.drop q).take m).set i c) (i : Int) = c := by rw [rd_nat _ _ (by omega), List.getElem_set_self]
      rw [this]
      omega) 3001 (by omega)
  refine bnd hN ?_
  dsimp only
  rw [if_pos rfl, w64 (by omega) (by omega), if_pos (by omega)]
  simp
end Go.Proofs.Ytjpgfalejadblaa.Pure
