/- The plain law behind the walk of CursorUintIsTake. No condition. -/
import Derived.Test.YtjpgfalejadblaaWWords
import Derived.Test.YtjpgfalejadblaaWMore
import Derived.Test.YtjpgfalejadblaaOwn
import Derived.Test.YtjpgfalejadblaaGx24
import Derived.Test.YtjpgfalejadblaaBase
import Derived.Test.YtjpgfalejadblaaBig
import Derived.Test.YtjpgfalejadblaaCur
import Derived.Test.YtjpgfalejadblaaSayCursorUintIsTake
set_option linter.unusedVariables false
set_option linter.unusedSimpArgs false
namespace Go.Proofs.Ytjpgfalejadblaa.Pure
open Go.RowKit Go.Proofs.Ytjpgfalejadblaa.G Go.Proofs.YtjpgfalejadblaaW.PrintWords Go.Proofs.YtjpgfalejadblaaW.PrintLast Go.Proofs.YtjpgfalejadblaaW.PrintMore
theorem sval_zero {n : Nat} (hn : Wid n) : sval n 0 = 0 := by rcases hn with rfl | rfl | rfl <;> decide
theorem CursorUintIsTake : Opn.CursorUintIsTake := by
  intro l p e a x w0 w1 w2 w3 w4
  have hx := wf_u8 w4
  have hB : Byt l := Byt.of w0.2
  refine ⟨3003, ?_⟩
  unfold zoneinfolaw02_CursorUintIsTake.f
  refine bnd (awake02 _ (by decide)) ?_
  rw [if_pos rfl]
  refine bnd (valid_f l p e a) ?_
  simp only [zoneinfolaw02_CursorUintIsTake.j0]
  by_cases hv : 0 ≤ p ∧ p ≤ l.length ∧ (e ≠ 0 ∨ a = 0) ∧ l.length ≤ 2000
  case neg =>
    rw [decide_eq_false hv, if_pos (by decide)]
    exact bnd (awake02 _ (by decide)) rfl
  rw [decide_eq_true hv, if_neg (by decide)]
  obtain ⟨h0, h1, h2, h3⟩ := hv
  obtain ⟨n, hn, hw⟩ := width_f x hx.1
  refine bnd hw ?_
  have hn8 := hn.le
  have hn1 : 1 ≤ n := by unfold Wid at hn; omega
  have hnil : fieldV [] 0 n = 0 := by
    unfold fieldV fieldOk
    rw [if_neg (by simp; omega)]
  have hru := ruint_f [] Byt.nil (by simp) 0 ⟨by omega, by omega⟩ n hn8 3002 (by omega)
  have hri := rint_f [] Byt.nil (by simp) 0 ⟨by omega, by omega⟩ n hn 3002 (by omega)
  rw [hnil] at hru hri
  rw [sval_zero hn] at hri
  by_cases he : e = 0
  · by_cases hs : (l.length : Int) - p < n
    · refine bnd (take_short ⟨h0, h1⟩ (by omega) he (.inr hs)) (bnd (cuint_short ⟨h0, h1⟩ (by omega) he (.inr hs) _) (bnd (cint_short ⟨h0, h1⟩ (by omega) he (.inr hs) _) ?_))
      refine bnd hru (bnd hri ?_)
      dsimp only
      rw [if_pos rfl, if_pos rfl]
      refine bnd (same02_self l (by omega) _ _ _ _ (by omega)) ?_
      rw [if_pos rfl]
      refine bnd (same02_self l (by omega) _ _ _ _ (by omega)) ?_
      rw [if_pos rfl, if_neg (by decide)]
    · obtain ⟨q, rfl⟩ := Int.eq_ofNat_of_zero_le h0
      refine bnd (take_ok ⟨h0, h1⟩ (by omega) he (by omega) (by omega)) (bnd (cuint_ok hB ⟨h0, h1⟩ (by omega) he n hn8 (by omega) _ (by omega)) (bnd (cint_ok hB ⟨h0, h1⟩ (by omega) he n hn (by omega) _ (by omega)) ?_))
      have hlen : ((l.drop q).take n).length = n := by rw [List.length_take, List.length_drop]; omega
      have hv2 : fieldV ((l.drop q).take n) 0 n = fieldV l q n := by
        unfold fieldV fieldOk
        rw [if_pos (by simp; omega), if_pos (by simp; omega)]
        simp only [Int.toNat_natCast, Int.toNat_zero, List.drop_zero, List.take_take, Nat.min_self]
      have r1 := ruint_f ((l.drop q).take n) ((hB.drop _).take _) (by omega) 0 ⟨by omega, by omega⟩ n hn8 3002 (by omega)
      have r2 := rint_f ((l.drop q).take n) ((hB.drop _).take _) (by omega) 0 ⟨by omega, by omega⟩ n hn 3002 (by omega)
      rw [hv2] at r1 r2
      refine bnd r1 (bnd r2 ?_)
      dsimp only
      rw [if_pos rfl, if_pos rfl]
      refine bnd (same02_self l (by omega) _ _ _ _ (by omega)) ?_
      rw [if_pos rfl]
      refine bnd (same02_self l (by omega) _ _ _ _ (by omega)) ?_
      rw [if_pos rfl, if_pos he]
      simp only [Int.toNat_natCast, hlen]
      simp
  · refine bnd (take_err he) (bnd (cuint_err he _) (bnd (cint_err he _) ?_))
    refine bnd hru (bnd hri ?_)
    dsimp only
    rw [if_pos rfl, if_pos rfl]
    refine bnd (same02_self l (by omega) _ _ _ _ (by omega)) ?_
    rw [if_pos rfl]
    refine bnd (same02_self l (by omega) _ _ _ _ (by omega)) ?_
    rw [if_pos rfl, if_neg he]
end Go.Proofs.Ytjpgfalejadblaa.Pure
