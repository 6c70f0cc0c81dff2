/- The plain law behind the walk of DesigsBuildIsStable. No condition. -/
import Derived.Test.YtchlggnbgabddaaWWords
import Derived.Test.YtchlggnbgabddaaWMore
import Derived.Test.YtchlggnbgabddaaOwn
import Derived.Test.YtchlggnbgabddaaGx30
import Derived.Test.YtchlggnbgabddaaBase
import Derived.Test.YtchlggnbgabddaaBig
import Derived.Test.YtchlggnbgabddaaDes
import Derived.Test.YtchlggnbgabddaaNam
import Derived.Test.YtchlggnbgabddaaSayDesigsBuildIsStable
set_option linter.unusedVariables false
set_option linter.unusedSimpArgs false
namespace Go.Proofs.Ytchlggnbgabddaa.Pure
open Go.RowKit Go.Proofs.Ytchlggnbgabddaa.G Go.Proofs.YtchlggnbgabddaaW.PrintWords Go.Proofs.YtchlggnbgabddaaW.PrintLast Go.Proofs.YtchlggnbgabddaaW.PrintMore
theorem stable_loop (I u : List Int) (hl : (I ++ u).length ≤ 1000) : ∀ (d i k : Nat), i + d = I.length → d < k → zoneinfolaw12_DesigsBuildIsStable.l0 k I (I ++ u) (i : Int) = some true := by
  rw [List.length_append] at hl
  intro d
  induction d with
  | zero =>
    intro i k hi hk
    obtain ⟨k, rfl⟩ : ∃ m, k = m + 1 := ⟨k - 1, by omega⟩
    simp only [zoneinfolaw12_DesigsBuildIsStable.l0]
    rw [if_neg (by omega)]
  | succ d ih =>
    intro i k hi hk
    obtain ⟨k, rfl⟩ : ∃ m, k = m + 1 := ⟨k - 1, by omega⟩
    simp only [zoneinfolaw12_DesigsBuildIsStable.l0]
    rw [if_pos (by omega), if_pos (by omega), if_pos (by rw [List.length_append]; omega), if_pos (rd_append_left I u i (by omega) (by omega)).symm, w64 (by omega) (by omega), show (i : Int) + 1 = ((i + 1 : Nat) : Int) by omega]
    exact ih (i + 1) k (by omega) (by omega)
theorem DesigsBuildIsStable : Opn.DesigsBuildIsStable := by
  intro a b w0 w1
  have ha := w0.1
  have hb := w1.1
  refine ⟨a.length * 305 + b.length * 305 + 50000, ?_⟩
  generalize hk : a.length * 305 + b.length * 305 + 50000 = K
  obtain ⟨k, rfl⟩ : ∃ m, K = m + 1 := ⟨K - 1, by omega⟩
  unfold zoneinfolaw12_DesigsBuildIsStable.f
  refine bnd (awake12 _ (by omega)) ?_
  rw [if_pos rfl]
  refine bnd (plain_f a ha _ (by omega)) ?_
  have hT : zoneinfolaw12_DesigsBuildIsStable.j0 (k + 1) a b true = some true := by
    simp only [zoneinfolaw12_DesigsBuildIsStable.j0]
    rw [if_pos (by decide)]
    exact bnd (awake12 _ (by omega)) rfl
  cases hpa : plainOk a with
  | false => rw [if_neg (by decide)]; exact hT
  | true =>
  rw [if_pos rfl]
  refine bnd (plain_f b hb _ (by omega)) ?_
  cases hpb : plainOk b with
  | false => rw [if_neg (by decide)]; exact hT
  | true =>
  rw [if_pos rfl]
  obtain ⟨a1, a2⟩ := plain_size hpa
  obtain ⟨b1, b2⟩ := plain_size hpb
  by_cases h0 : (a.length : Int) = 0
  · rw [if_pos h0]; exact hT
  rw [if_neg h0, w64 (by omega) (by omega)]
  by_cases h6 : (a.length : Int) + (b.length : Int) > 60
  · rw [decide_eq_true h6]; exact hT
  rw [decide_eq_false h6]
  have hab : ∀ x ∈ a ++ b, x.size ≤ 300 := fun x hx => (List.mem_append.1 hx).elim (a2 x) (b2 x)
  have hlab : (a ++ b).length ≤ 120 := by rw [List.length_append]; omega
  have hlab2 : (a ++ b).length = a.length + b.length := List.length_append
  obtain ⟨T, M, I, e, hTl, hIl⟩ := bfirst_ok a a2 (by omega) a.length (Nat.le_refl _)
  have ep := bfirst_pos a a2 (by omega) (by omega) e
  have e' := (bfirst_left a b a.length (Nat.le_refl _)).trans e
  obtain ⟨s, u, M', e2⟩ := bfirst_grow (a ++ b) hab hlab a.length e' b.length (Nat.le_of_eq hlab2.symm)
  obtain ⟨T3, M3, I3, e3, hT3, hI3⟩ := bfirst_ok (a ++ b) hab hlab (a.length + b.length) (Nat.le_of_eq hlab2.symm)
  have hq := e2.symm.trans e3
  simp only [Option.some.injEq, Prod.mk.injEq] at hq
  rw [← hlab2] at e2
  have B1 := build_f a e
  have B2 := build_f (a ++ b) e2
  rw [if_neg (by omega)] at B1
  rw [if_neg (by rw [List.length_append]; omega)] at B2
  have hTs : (T ++ s).length ≤ 301 * (a.length + b.length) := by rw [hq.1]; exact hT3
  have hIu : (I ++ u).length = a.length + b.length := by rw [hq.2.2]; exact hI3
  have hTs2 : (T ++ s).length = T.length + s.length := List.length_append
  simp only [zoneinfolaw12_DesigsBuildIsStable.j0]
  rw [if_neg (by decide)]
  refine bnd B1 ?_
  refine bnd rfl ?_
  rw [if_pos (by simp; omega)]
  refine bnd rfl ?_
  rw [if_pos (by simp; omega), List.nil_append]
  refine bnd B2 ?_
  dsimp only
  rw [if_neg (by omega), if_pos (by omega), w64 (by omega) (by omega), if_pos (by omega), if_pos (by omega), if_pos (by omega), Int.toNat_natCast, List.take_append_of_le_length (Nat.le_refl _), List.take_length]
  refine bnd (same01_f T T (by omega) k (by omega)) ?_
  obtain ⟨k, rfl⟩ : ∃ m, k = m + 1 := ⟨k - 1, by omega⟩
  simp only [zoneinfolaw12_DesigsBuildIsStable.j1]
  rw [if_neg (by simp)]
  exact stable_loop I u (by omega) I.length 0 k (by omega) (by omega)
end Go.Proofs.Ytchlggnbgabddaa.Pure
