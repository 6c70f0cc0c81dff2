/- The plain law behind the walk of LegacyInEffect. No condition. -/
import Derived.Test.YtfomlahadnihhaaWWords
import Derived.Test.YtfomlahadnihhaaWMore
import Derived.Test.YtfomlahadnihhaaOwn
import Derived.Test.YtfomlahadnihhaaGx19
import Derived.Test.YtfomlahadnihhaaGx7
import Derived.Test.YtfomlahadnihhaaBase
import Derived.Test.YtfomlahadnihhaaVb22
import Derived.Test.YtfomlahadnihhaaLeg22
import Derived.Test.YtfomlahadnihhaaSayLegacyInEffect
set_option linter.unusedVariables false
set_option linter.unusedSimpArgs false
namespace Go.Proofs.Ytfomlahadnihhaa.Pure
open Go.RowKit Go.Proofs.Ytfomlahadnihhaa.G Go.Proofs.YtfomlahadnihhaaW.PrintWords Go.Proofs.YtfomlahadnihhaaW.PrintLast Go.Proofs.YtfomlahadnihhaaW.PrintMore
theorem ieff_at {T I : List Int} (h : ascB T = true) (i : Nat) (hi : i < T.length) : ieff T I (rd T (i : Int)) = rd I (i : Int) := by
  have e : aft T (rd T (i : Int)) = i + 1 := aft_eq _ T (i + 1) (by omega) (fun j hj => asc_le h (by omega) (by omega)) (fun j h1 h2 => by
    have h3 := asc_le h (show i + 1 ≤ j by omega) h2
    have h4 := asc_step T h i (by omega)
    omega)
  unfold ieff
  rw [e, if_neg (by omega), Nat.add_sub_cancel]
theorem ieff_before {T I : List Int} (h : ascB T = true) (i : Nat) (hi : i < T.length) : ieff T I (rd T (i : Int) - 1) = if i = 0 then 0 else rd I ((i - 1 : Nat) : Int) := by
  have e : aft T (rd T (i : Int) - 1) = i := aft_eq _ T i (by omega) (fun j hj => by
    have h3 := asc_le h (show j ≤ i - 1 by omega) (by omega)
    have h4 := asc_step T h (i - 1) (by omega)
    rw [show i - 1 + 1 = i by omega] at h4
    omega) (fun j h1 h2 => by
    have h3 := asc_le h h1 h2
    omega)
  unfold ieff
  rw [e]
theorem ieff_same {T I : List Int} (h : ascB T = true) (t : Int) (hn : ∀ j : Nat, j < T.length → rd T (j : Int) ≠ t) : ieff T I t = ieff T I (t - 1) := by
  obtain ⟨a1, a2, a3⟩ := aft_spec t T h
  have e : aft T (t - 1) = aft T t := aft_eq _ T _ a1 (fun j hj => by
    have h1 := a2 j hj
    have h2 := hn j (by omega)
    omega) (fun j h1 h2 => by have := a3 j h1 h2; omega)
  unfold ieff
  rw [e]
variable {b : S28}
theorem ie_l1 (hS : Sm b) (h : Rises b) (t : Int) (ht : -9223372036854775808 < t ∧ t ≤ 9223372036854775807) : ∀ (d i k : Nat) (g : Bool), i + d = b.f0.length → d < k → (g = false → ∀ j : Nat, j < i → rd b.f0 (j : Int) ≠ t) → zoneinfolaw22_LegacyInEffect.l1 k t g (i : Int) b.f0 b.f1 b.f2 b.f3 b.f4 b.f5 b.f6 = some true := by
  have h0 := hS.l0
  intro d
  induction d with
  | zero =>
    intro i k g hi hk hg
    obtain ⟨k, rfl⟩ : ∃ m, k = m + 1 := ⟨k - 1, by omega⟩
    simp only [zoneinfolaw22_LegacyInEffect.l1]
    rw [if_neg (by omega)]
    cases g with
    | true => rw [if_pos rfl]
    | false =>
      rw [if_neg (by decide), w64 (x := t - 1) (by omega) (by omega)]
      refine bnd (ineff_f b h.asc (by omega) (by have := h.len; omega) h.byt t) ?_
      refine bnd (ineff_f b h.asc (by omega) (by have := h.len; omega) h.byt (t - 1)) ?_
      rw [ieff_same h.asc t (fun j hj => hg rfl j (by omega))]
      simp
  | succ d ih =>
    intro i k g hi hk hg
    obtain ⟨k, rfl⟩ : ∃ m, k = m + 1 := ⟨k - 1, by omega⟩
    simp only [zoneinfolaw22_LegacyInEffect.l1]
    rw [if_pos (by omega), next i (by omega)]
    cases g with
    | true => rw [if_pos rfl]; exact ih (i + 1) k true (by omega) (by omega) (fun e => absurd e (by decide))
    | false =>
      rw [if_neg (by decide), if_pos (by omega)]
      refine ih (i + 1) k _ (by omega) (by omega) (fun e j hj => ?_)
      rw [beq_eq_false_iff_ne] at e
      rcases Nat.lt_or_ge j i with g1 | g1
      · exact hg rfl j g1
      · obtain rfl : j = i := by omega
        exact e
theorem ie_l0 (hS : Sm b) (hW : Wd b) (h : Rises b) (t : Int) (ht : -9223372036854775808 ≤ t ∧ t ≤ 9223372036854775807) : ∀ (d i k : Nat), i + d = b.f0.length → d + 300 < k → zoneinfolaw22_LegacyInEffect.l0 k t (i : Int) b.f0 b.f1 b.f2 b.f3 b.f4 b.f5 b.f6 = some true := by
  have h0 := hS.l0
  have hl := h.len
  intro d
  induction d with
  | zero =>
    intro i k hi hk
    obtain ⟨k, rfl⟩ : ∃ m, k = m + 1 := ⟨k - 1, by omega⟩
    simp only [zoneinfolaw22_LegacyInEffect.l0]
    rw [if_neg (by omega)]
    by_cases e : t = -9223372036854775808
    · rw [if_pos e]
    · rw [if_neg e]
      exact ie_l1 hS h t (by omega) b.f0.length 0 k false (by omega) (by omega) (fun _ j hj => absurd hj (Nat.not_lt_zero j))
  | succ d ih =>
    intro i k hi hk
    obtain ⟨k, rfl⟩ : ∃ m, k = m + 1 := ⟨k - 1, by omega⟩
    have hz := hW.z.rd i (by omega)
    have hb := h.byt.rd (i : Int)
    have hn := ih (i + 1) k (by omega) (by omega)
    simp only [zoneinfolaw22_LegacyInEffect.l0]
    rw [if_pos (by omega), if_pos (by omega)]
    refine bnd (ineff_f b h.asc (by omega) (by omega) h.byt _) ?_
    rw [ieff_at h.asc i (by omega), if_pos (by omega), w64 (x := rd b.f1 (i : Int)) (by omega) (by omega), if_pos rfl, next i (by omega)]
    by_cases hi0 : i = 0
    · rw [if_neg (by omega)]
      by_cases hlo : rd b.f0 (i : Int) > -9223372036854775808
      · rw [if_pos hlo, w64 (x := rd b.f0 (i : Int) - 1) (by omega) (by omega)]
        refine bnd (ineff_f b h.asc (by omega) (by omega) h.byt _) ?_
        rw [ieff_before h.asc i (by omega), if_pos hi0, if_pos rfl]
        exact hn
      · rw [if_neg hlo]; exact hn
    · have w1 : wrap64 ((i : Int) - 1) = ((i - 1 : Nat) : Int) := by rw [w64 (by omega) (by omega)]; omega
      have hb1 := h.byt.rd ((i - 1 : Nat) : Int)
      rw [if_pos (by omega), w1, if_pos (by omega), if_pos (by omega)]
      by_cases hlo : rd b.f0 (i : Int) > -9223372036854775808
      · rw [if_pos hlo, w64 (x := rd b.f0 (i : Int) - 1) (by omega) (by omega)]
        refine bnd (ineff_f b h.asc (by omega) (by omega) h.byt _) ?_
        rw [ieff_before h.asc i (by omega), if_neg hi0, w64 (x := rd b.f1 ((i - 1 : Nat) : Int)) (by omega) (by omega), if_pos rfl]
        exact hn
      · rw [if_neg hlo]; exact hn
theorem LegacyInEffect : Opn.LegacyInEffect := by
  intro z i ty c s st ut t w0 w1 w2 w3 w4 w5 w6 w7
  have hW : Wd ⟨z, i, ty, c, s, st, ut⟩ := ⟨I64s.of w0.2, Byt.of w1.2, WfT.of w2.2, WfS.of w4.2⟩
  refine ⟨5000, ?_⟩
  generalize hK : (5000 : Nat) = K
  obtain ⟨k, rfl⟩ : ∃ m, K = m + 1 := ⟨K - 1, by omega⟩
  unfold zoneinfolaw22_LegacyInEffect.f zoneinfolaw22_awake.f
  rw [Option.bind_some, if_pos rfl]
  obtain ⟨v, e, hv⟩ := valid_f hW (k + 1) (by omega)
  refine bnd e ?_
  simp only [zoneinfolaw22_LegacyInEffect.j0]
  cases v with
  | false => rw [if_pos (by decide)]; rfl
  | true =>
    rw [if_neg (by decide)]
    obtain ⟨hS, hB⟩ := hv rfl
    exact ie_l0 hS hW (Rises.of hW hB) t (wf_i64 w7) z.length 0 k (Nat.zero_add _) (by have := hS.l0; exact (show z.length + 300 < k by have : z.length ≤ 200 := this; omega))
end Go.Proofs.Ytfomlahadnihhaa.Pure
