/- The plain law behind the walk of HeaderRoundTrip. No condition. -/
import Derived.Test.YtikgbmldbfgkdaaDoorWWords
import Derived.Test.YtikgbmldbfgkdaaDoorWMore
import Derived.Test.YtikgbmldbfgkdaaDoorOwn
import Derived.Test.YtikgbmldbfgkdaaDoorGx17
import Derived.Test.YtikgbmldbfgkdaaDoorBase
import Derived.Test.YtikgbmldbfgkdaaDoorBig
import Derived.Test.YtikgbmldbfgkdaaDoorCur
import Derived.Test.YtikgbmldbfgkdaaDoorHdr
set_option linter.unusedVariables false
set_option linter.unusedSimpArgs false
namespace Go.Proofs.YtikgbmldbfgkdaaDoor.Pure
open Go.RowKit Go.Proofs.YtikgbmldbfgkdaaDoor.G Go.Proofs.YtikgbmldbfgkdaaDoorW.PrintWords Go.Proofs.YtikgbmldbfgkdaaDoorW.PrintLast Go.Proofs.YtikgbmldbfgkdaaDoorW.PrintMore
theorem HeaderRoundTrip : zoneinfolaw13_HeaderRoundTrip.Pure := by
  intro v a b c d e f m n w0 w1 w2 w3 w4 w5 w6 x1 x2 x3 y1 y2 y3
  have hf := six_bound (wf_u32 w1) (wf_u32 w2) (wf_u32 w3) (wf_u32 w4) (wf_u32 w5) (wf_u32 w6)
  refine ⟨1, ?_⟩
  unfold zoneinfolaw13_HeaderRoundTrip.f
  refine bnd awake13 ?_
  rw [if_pos rfl]
  have hT : zoneinfolaw13_HeaderRoundTrip.j0 1 m n true v a b c d e f = some true := by
    simp only [zoneinfolaw13_HeaderRoundTrip.j0]
    rw [if_pos (by decide)]
    exact bnd awake13 rfl
  by_cases h1 : v < 1
  · rw [if_pos h1]; exact hT
  rw [if_neg h1]
  by_cases h2 : v > 4
  · rw [if_pos h2]; exact hT
  rw [if_neg h2]
  by_cases h3 : (m.length : Int) > 500
  · rw [if_pos h3]; exact hT
  rw [if_neg h3]
  by_cases h4 : (n.length : Int) > 500
  · rw [decide_eq_true h4]; exact hT
  rw [decide_eq_false h4]
  simp only [zoneinfolaw13_HeaderRoundTrip.j0]
  rw [if_neg (by decide)]
  have hv : 1 ≤ v ∧ v ≤ 4 := by omega
  have hE := encH_length v (pick6 a b c d e f)
  refine bnd rfl ?_
  rw [if_pos (by simp; omega)]
  refine bnd rfl ?_
  refine bnd (encode_f hv hf) ?_
  rw [if_pos (by simp [hE]; omega)]
  refine bnd rfl ?_
  rw [if_pos (by simp [hE]; omega)]
  refine bnd rfl ?_
  dsimp only
  obtain ⟨B, hb⟩ := consistent_any v a b c d e f
  have hD := dec_enc hv hf (([] ++ m ++ encH v (pick6 a b c d e f)) ++ n) m n (by simp) (((Byt.append (Byt.append Byt.nil (Byt.of x3)) (encH_byt hv _))).append (Byt.of y3)) (by simp [hE]; omega) 0 B hb
  cases B with
  | true =>
    rw [if_pos rfl] at hD
    refine bnd hD ?_
    refine bnd hb ?_
    rw [if_pos rfl]
    dsimp only
    rw [if_pos (by simp [pick6]), if_pos rfl, w64 (by omega) (by omega)]
    simp
  | false =>
    rw [if_neg (by decide)] at hD
    refine bnd hD ?_
    refine bnd hb ?_
    rw [if_neg (by decide)]
    dsimp only
    rw [if_pos (by decide), if_pos rfl]
    simp
end Go.Proofs.YtikgbmldbfgkdaaDoor.Pure
