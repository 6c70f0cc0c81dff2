/- The plain law behind the walk of LegacyDoesNotAlias. No condition. -/
import Derived.Test.YtfomlahadnihhaaWWords
import Derived.Test.YtfomlahadnihhaaWMore
import Derived.Test.YtfomlahadnihhaaOwn
import Derived.Test.YtfomlahadnihhaaGx21
import Derived.Test.YtfomlahadnihhaaGx7
import Derived.Test.YtfomlahadnihhaaBase
import Derived.Test.YtfomlahadnihhaaVb22
import Derived.Test.YtfomlahadnihhaaLeg22
import Derived.Test.YtfomlahadnihhaaEq22
import Derived.Test.YtfomlahadnihhaaRef22
import Derived.Test.YtfomlahadnihhaaSayLegacyDoesNotAlias
set_option linter.unusedVariables false
set_option linter.unusedSimpArgs false
namespace Go.Proofs.Ytfomlahadnihhaa.Pure
open Go.RowKit Go.Proofs.Ytfomlahadnihhaa.G Go.Proofs.YtfomlahadnihhaaW.PrintWords Go.Proofs.YtfomlahadnihhaaW.PrintLast Go.Proofs.YtfomlahadnihhaaW.PrintMore
variable {b : S28}
theorem dn_l3 (hS : Sm b) (h : Rises b) (y0 y1 : List Int) (y2 : List S38) (y3 : List Int) (y4 : List S42) (y6 : List Bool) : ∀ (d i k : Nat) (y5 : List Bool), i + d = y5.length → y5.length ≤ 1000 → d + 2100 < k →
    zoneinfolaw22_LegacyDoesNotAlias.l3 k (i : Int) b.f0 b.f1 b.f2 b.f3 b.f4 b.f5 b.f6 y0 y1 y2 y3 y4 y5 y6 (vwOf b).f0 (vwOf b).f1 (vwOf b).f2 (vwOf b).f3 (vwOf b).f4 (vwOf b).f5 (vwOf b).f6 = some true := by
  intro d
  induction d with
  | zero =>
    intro i k y5 hi hl hk
    obtain ⟨k, rfl⟩ : ∃ m, k = m + 1 := ⟨k - 1, by omega⟩
    simp only [zoneinfolaw22_LegacyDoesNotAlias.l3]
    rw [if_neg (by omega)]
    refine bnd slim_f ?_
    dsimp only
    rw [if_pos (show (0 : Int) < (slim.f2.length : Int) from by decide), if_pos (show (0 : Int) < (slim.f3.length : Int) from by decide)]
    refine bnd (view_f hS h) ?_
    refine bnd ((equal_f (a := vwOf b) (b := vwOf b) hS.view k (by omega)).sure rfl) ?_
    rw [if_pos rfl]
    refine bnd slim_f ?_
    exact bnd ((isSlim_f slim_sm k (by omega)).sure rfl) rfl
  | succ d ih =>
    intro i k y5 hi hl hk
    obtain ⟨k, rfl⟩ : ∃ m, k = m + 1 := ⟨k - 1, by omega⟩
    simp only [zoneinfolaw22_LegacyDoesNotAlias.l3]
    rw [if_pos (by omega), if_pos (by omega), next i (by omega)]
    exact ih (i + 1) k _ (by rw [List.length_set]; omega) (by rw [List.length_set]; omega) (by omega)
theorem dn_l2 (hS : Sm b) (h : Rises b) (y0 y1 : List Int) (y2 : List S38) (y4 : List S42) (y5 y6 : List Bool) (h5 : y5.length ≤ 1000) : ∀ (d i k : Nat) (y3 : List Int), i + d = y3.length → y3.length ≤ 1000 → d + 3200 < k →
    zoneinfolaw22_LegacyDoesNotAlias.l2 k (i : Int) b.f0 b.f1 b.f2 b.f3 b.f4 b.f5 b.f6 y0 y1 y2 y3 y4 y5 y6 (vwOf b).f0 (vwOf b).f1 (vwOf b).f2 (vwOf b).f3 (vwOf b).f4 (vwOf b).f5 (vwOf b).f6 = some true := by
  intro d
  induction d with
  | zero =>
    intro i k y3 hi hl hk
    obtain ⟨k, rfl⟩ : ∃ m, k = m + 1 := ⟨k - 1, by omega⟩
    simp only [zoneinfolaw22_LegacyDoesNotAlias.l2]
    rw [if_neg (by omega)]
    exact dn_l3 hS h y0 y1 y2 y3 y4 y6 y5.length 0 k y5 (Nat.zero_add _) h5 (by omega)
  | succ d ih =>
    intro i k y3 hi hl hk
    obtain ⟨k, rfl⟩ : ∃ m, k = m + 1 := ⟨k - 1, by omega⟩
    simp only [zoneinfolaw22_LegacyDoesNotAlias.l2]
    rw [if_pos (by omega), if_pos (by omega), next i (by omega)]
    exact ih (i + 1) k _ (by rw [List.length_set]; omega) (by rw [List.length_set]; omega) (by omega)
theorem dn_l1 (hS : Sm b) (h : Rises b) (y2 : List S38) (y3 : List Int) (y4 : List S42) (y5 y6 : List Bool) (h3 : y3.length ≤ 1000) (h5 : y5.length ≤ 1000) : ∀ (d i k : Nat) (y0 y1 : List Int), i + d = y0.length → y1.length = y0.length → y0.length ≤ 1000 → d + 4300 < k →
    zoneinfolaw22_LegacyDoesNotAlias.l1 k (i : Int) b.f0 b.f1 b.f2 b.f3 b.f4 b.f5 b.f6 y0 y1 y2 y3 y4 y5 y6 (vwOf b).f0 (vwOf b).f1 (vwOf b).f2 (vwOf b).f3 (vwOf b).f4 (vwOf b).f5 (vwOf b).f6 = some true := by
  intro d
  induction d with
  | zero =>
    intro i k y0 y1 hi hy hl hk
    obtain ⟨k, rfl⟩ : ∃ m, k = m + 1 := ⟨k - 1, by omega⟩
    simp only [zoneinfolaw22_LegacyDoesNotAlias.l1]
    rw [if_neg (by omega)]
    exact dn_l2 hS h y0 y1 y2 y4 y5 y6 h5 y3.length 0 k y3 (Nat.zero_add _) h3 (by omega)
  | succ d ih =>
    intro i k y0 y1 hi hy hl hk
    obtain ⟨k, rfl⟩ : ∃ m, k = m + 1 := ⟨k - 1, by omega⟩
    simp only [zoneinfolaw22_LegacyDoesNotAlias.l1]
    rw [if_pos (by omega), if_pos (by omega), if_pos (by omega), next i (by omega)]
    exact ih (i + 1) k _ _ (by rw [List.length_set]; omega) (by rw [List.length_set, List.length_set]; omega) (by rw [List.length_set]; omega) (by omega)
theorem dn_l0 (hS : Sm b) (h : Rises b) (y0 y1 y3 : List Int) (y4 : List S42) (y5 y6 : List Bool) (hy : y1.length = y0.length) (h0 : y0.length ≤ 1000) (h3 : y3.length ≤ 1000) (h5 : y5.length ≤ 1000) : ∀ (d i k : Nat) (y2 : List S38), i + d = y2.length → y2.length ≤ 1000 → d + 5400 < k →
    zoneinfolaw22_LegacyDoesNotAlias.l0 k (i : Int) b.f0 b.f1 b.f2 b.f3 b.f4 b.f5 b.f6 y0 y1 y2 y3 y4 y5 y6 (vwOf b).f0 (vwOf b).f1 (vwOf b).f2 (vwOf b).f3 (vwOf b).f4 (vwOf b).f5 (vwOf b).f6 = some true := by
  intro d
  induction d with
  | zero =>
    intro i k y2 hi hl hk
    obtain ⟨k, rfl⟩ : ∃ m, k = m + 1 := ⟨k - 1, by omega⟩
    simp only [zoneinfolaw22_LegacyDoesNotAlias.l0]
    rw [if_neg (by omega)]
    exact dn_l1 hS h y2 y3 y4 y5 y6 h3 h5 y0.length 0 k y0 y1 (Nat.zero_add _) hy h0 (by omega)
  | succ d ih =>
    intro i k y2 hi hl hk
    obtain ⟨k, rfl⟩ : ∃ m, k = m + 1 := ⟨k - 1, by omega⟩
    simp only [zoneinfolaw22_LegacyDoesNotAlias.l0]
    rw [if_pos (by omega), if_pos (by omega), next i (by omega)]
    exact ih (i + 1) k _ (by rw [List.length_set]; omega) (by rw [List.length_set]; omega) (by omega)
theorem LegacyDoesNotAlias : Opn.LegacyDoesNotAlias := by
  intro z i ty c s st ut w0 w1 w2 w3 w4 w5 w6
  have hW : Wd ⟨z, i, ty, c, s, st, ut⟩ := ⟨I64s.of w0.2, Byt.of w1.2, WfT.of w2.2, WfS.of w4.2⟩
  generalize hb : (⟨z, i, ty, c, s, st, ut⟩ : S28) = b at hW
  refine ⟨9000, ?_⟩
  generalize hK : (9000 : Nat) = K
  obtain ⟨k, rfl⟩ : ∃ m, K = m + 1 := ⟨K - 1, by omega⟩
  have goal : ∀ b : S28, Wd b → zoneinfolaw22_LegacyDoesNotAlias.f (k + 1) b.f0 b.f1 b.f2 b.f3 b.f4 b.f5 b.f6 = some true := by
    clear hb hW
    intro b hW
    unfold zoneinfolaw22_LegacyDoesNotAlias.f zoneinfolaw22_awake.f
    rw [Option.bind_some, if_pos rfl]
    obtain ⟨v, e, hv⟩ := valid_f hW (k + 1) (by omega)
    refine bnd e ?_
    simp only [zoneinfolaw22_LegacyDoesNotAlias.j0]
    cases v with
    | false => rw [if_pos (by decide)]; rfl
    | true =>
      rw [if_neg (by decide)]
      obtain ⟨hS, hB⟩ := hv rfl
      have hr := Rises.of hW hB
      have hS2 := hS.view
      have m0 := hS2.l0
      have m2 := hS2.l2
      have m3 := hS2.l3
      have m5 := hS2.l5
      have hl := hr.view.len
      refine bnd (view_f hS hr) ?_
      refine bnd (rview_f hS hW hB) ?_
      rw [if_pos (by dsimp only; omega)]
      exact dn_l0 hS hr (vwOf b).f0 (vwOf b).f1 (vwOf b).f3 (vwOf b).f4 (vwOf b).f5 (vwOf b).f6 hl (by omega) (by omega) (by omega) (vwOf b).f2.length 0 k (vwOf b).f2 (Nat.zero_add _) (by omega) (by omega)
  have := goal b hW
  subst hb
  exact this
end Go.Proofs.Ytfomlahadnihhaa.Pure
