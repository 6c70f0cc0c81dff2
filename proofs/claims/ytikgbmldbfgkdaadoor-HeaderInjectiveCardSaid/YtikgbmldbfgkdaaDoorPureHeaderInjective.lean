/- The plain law behind the walk of HeaderInjective. No condition. -/
import Derived.Test.YtikgbmldbfgkdaaDoorWWords
import Derived.Test.YtikgbmldbfgkdaaDoorWMore
import Derived.Test.YtikgbmldbfgkdaaDoorOwn
import Derived.Test.YtikgbmldbfgkdaaDoorGx22
import Derived.Test.YtikgbmldbfgkdaaDoorBase
import Derived.Test.YtikgbmldbfgkdaaDoorBig
import Derived.Test.YtikgbmldbfgkdaaDoorCur
import Derived.Test.YtikgbmldbfgkdaaDoorHdr
set_option linter.unusedVariables false
set_option linter.unusedSimpArgs false
namespace Go.Proofs.YtikgbmldbfgkdaaDoor.Pure
open Go.RowKit Go.Proofs.YtikgbmldbfgkdaaDoor.G Go.Proofs.YtikgbmldbfgkdaaDoorW.PrintWords Go.Proofs.YtikgbmldbfgkdaaDoorW.PrintLast Go.Proofs.YtikgbmldbfgkdaaDoorW.PrintMore
theorem HeaderInjective : zoneinfolaw13_HeaderInjective.Pure := by
  intro v a b c d e f v' a' b' c' d' e' f' w0 w1 w2 w3 w4 w5 w6 u0 u1 u2 u3 u4 u5 u6
  have hf := six_bound (wf_u32 w1) (wf_u32 w2) (wf_u32 w3) (wf_u32 w4) (wf_u32 w5) (wf_u32 w6)
  have hg := six_bound (wf_u32 u1) (wf_u32 u2) (wf_u32 u3) (wf_u32 u4) (wf_u32 u5) (wf_u32 u6)
  refine ⟨1003, ?_⟩
  unfold zoneinfolaw13_HeaderInjective.f
  refine bnd awake13 ?_
  rw [if_pos rfl]
  have hT : zoneinfolaw13_HeaderInjective.j0 1003 true v a b c d e f v' a' b' c' d' e' f' = some true := by
    simp only [zoneinfolaw13_HeaderInjective.j0]
    rw [if_pos (by decide)]
    exact bnd awake13 rfl
  by_cases h1 : v < 1
  · rw [if_pos h1]; exact hT
  rw [if_neg h1]
  by_cases h2 : v > 4
  · rw [if_pos h2]; exact hT
  rw [if_neg h2]
  by_cases h3 : v' < 1
  · rw [if_pos h3]; exact hT
  rw [if_neg h3]
  by_cases h4 : v' > 4
  · rw [decide_eq_true h4]; exact hT
  rw [decide_eq_false h4]
  simp only [zoneinfolaw13_HeaderInjective.j0]
  rw [if_neg (by decide)]
  have hv : 1 ≤ v ∧ v ≤ 4 := by omega
  have hw : 1 ≤ v' ∧ v' ≤ 4 := by omega
  have hE := encH_length v (pick6 a b c d e f)
  have hE' := encH_length v' (pick6 a' b' c' d' e' f')
  refine bnd (encode_f hv hf) ?_
  refine bnd (encode_f hw hg) ?_
  rw [if_pos (by omega), if_pos (by omega), if_pos (by omega)]
  rw [show (encH v (pick6 a b c d e f)).take 4 = [84, 90, 105, 102] from rfl, if_pos (by decide +kernel)]
  refine bnd (same01_f _ _ (by omega) 1002 (by omega)) ?_
  congr 1
  rw [beq_iff_eq, Bool.eq_iff_iff, decide_eq_true_iff]
  simp only [Bool.and_eq_true, beq_iff_eq]
  constructor
  · intro h
    obtain ⟨e1, e2⟩ := encH_inj hv hw hf hg h
    exact ⟨e1, e2 0 (by decide), e2 1 (by decide), e2 2 (by decide), e2 3 (by decide), e2 4 (by decide), e2 5 (by decide)⟩
  · rintro ⟨rfl, rfl, rfl, rfl, rfl, rfl, rfl⟩
    rfl
end Go.Proofs.YtikgbmldbfgkdaaDoor.Pure
