/- With the largest limit sums of three sizes succeed independently of the order, and multiplying by a sum equals adding the products if all of these succeed: the plain law behind the walk. No condition. -/
import Derived.Test.YtljompndopfflaaWWords
import Derived.Test.YtljompndopfflaaWMore
import Derived.Test.YtljompndopfflaaOwn
import Derived.Test.YtljompndopfflaaGx14
import Derived.Test.YtljompndopfflaaBase
import Derived.Test.YtljompndopfflaaSiz
import Derived.Test.YtljompndopfflaaL03
set_option linter.unusedVariables false
namespace Go.Proofs.Ytljompndopfflaa.Pure
open Go.RowKit Go.Proofs.Ytljompndopfflaa.G Go.Proofs.YtljompndopfflaaW.PrintWords Go.Proofs.YtljompndopfflaaW.PrintLast Go.Proofs.YtljompndopfflaaW.PrintMore

theorem prod32 {x y : Int} (hx : 0 ≤ x ∧ x < 4294967296) (hy : 0 ≤ y ∧ y < 8589934592) : 0 ≤ x * y ∧ x * y ≤ 36893488134714679296 := by
  refine ⟨Int.mul_nonneg hx.1 hy.1, ?_⟩
  have h1 : x * y ≤ 4294967295 * y := Int.mul_le_mul_of_nonneg_right (by omega) hy.1
  omega
theorem SizesAssociate : zoneinfolaw03_SizesAssociate.Pure := by
  intro a b c ha hb hc
  have wa := wf_u32 ha
  have wb := wf_u32 hb
  have wc := wf_u32 hc
  have L : U 18446744073709551615 := ⟨by omega, by omega⟩
  refine ⟨100, ?_⟩
  unfold zoneinfolaw03_SizesAssociate.f
  refine bnd (awake03 _ (by omega)) ?_
  rw [if_pos rfl, u64w (x := a) (by omega) (by omega), u64w (x := b) (by omega) (by omega), u64w (x := c) (by omega) (by omega)]
  have Ua : U a := ⟨by omega, by omega⟩
  have Ub : U b := ⟨by omega, by omega⟩
  have Uc : U c := ⟨by omega, by omega⟩
  refine bnd (add_f a b _ Ua Ub L) ?_
  rw [capS_pos (by omega)]
  dsimp only
  refine bnd (add_f (a + b) c _ ⟨by omega, by omega⟩ Uc L) ?_
  refine bnd (add_f b c _ Ub Uc L) ?_
  rw [capS_pos (v := b + c) (by omega), capS_pos (v := a + b + c) (by omega)]
  dsimp only
  refine bnd (add_f a (b + c) _ Ua ⟨by omega, by omega⟩ L) ?_
  rw [capS_pos (v := a + (b + c)) (by omega)]
  dsimp only
  refine bnd (mul_f a (b + c) _ Ua ⟨by omega, by omega⟩ L) ?_
  refine bnd (mul_f a b _ Ua Ub L) ?_
  refine bnd (mul_f a c _ Ua Uc L) ?_
  rw [if_pos rfl, if_pos rfl, if_pos rfl, if_pos rfl, if_pos (by omega)]
  have p1 := mul_le32 wa wb
  have p2 := mul_le32 wa wc
  have p3 : a * (b + c) = a * b + a * c := Int.mul_add _ _ _
  rw [p3]
  generalize a * b = p at *
  generalize a * c = q at *
  rw [capS_pos (v := p) (by omega), capS_pos (v := q) (by omega)]
  dsimp only
  refine bnd (add_f p q _ ⟨by omega, by omega⟩ ⟨by omega, by omega⟩ L) ?_
  rw [if_pos rfl, if_pos rfl, if_pos (by simp)]
  split
  · simp
  · rfl
end Go.Proofs.Ytljompndopfflaa.Pure
