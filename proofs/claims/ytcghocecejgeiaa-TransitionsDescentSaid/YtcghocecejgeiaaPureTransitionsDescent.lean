/- The first place where a list of times does not rise: the plain law behind the walk. No condition. -/
import Derived.Test.YtcghocecejgeiaaWWords
import Derived.Test.YtcghocecejgeiaaWMore
import Derived.Test.YtcghocecejgeiaaOwn
import Derived.Test.YtcghocecejgeiaaGx2
import Derived.Test.YtcghocecejgeiaaGx7
import Derived.Test.YtcghocecejgeiaaBase
import Derived.Test.YtcghocecejgeiaaBig
import Derived.Test.YtcghocecejgeiaaTrans
set_option linter.unusedVariables false
set_option linter.unusedSimpArgs false
namespace Go.Proofs.Ytcghocecejgeiaa.Pure
open Go.RowKit Go.Proofs.Ytcghocecejgeiaa.G Go.Proofs.YtcghocecejgeiaaW.PrintWords Go.Proofs.YtcghocecejgeiaaW.PrintLast Go.Proofs.YtcghocecejgeiaaW.PrintMore

theorem descW_cases (zs : List Int) : (descW zs = -1 ∧ ∀ j : Nat, j + 1 < zs.length → rd zs (j : Int) < rd zs ((j + 1 : Nat) : Int)) ∨
    ∃ k : Nat, k + 1 < zs.length ∧ descW zs = (k : Int) + 1 ∧ (∀ j : Nat, j < k → rd zs (j : Int) < rd zs ((j + 1 : Nat) : Int)) ∧ rd zs ((k + 1 : Nat) : Int) ≤ rd zs (k : Int) := by
  unfold descW
  split
  · rename_i k hf
    obtain ⟨h1, h2, h3⟩ := List.find?_range_eq_some.1 hf
    rw [List.mem_range] at h2
    have h1 := of_decide_eq_true h1
    refine .inr ⟨k, by omega, rfl, fun j hj => ?_, h1⟩
    have := h3 j hj
    simp at this
    exact this
  · rename_i hf
    rw [List.find?_eq_none] at hf
    refine .inl ⟨rfl, fun j hj => ?_⟩
    have := hf j (List.mem_range.2 (by omega))
    simp at this
    exact this
theorem rd_take (zs : List Int) (m j : Nat) (hj : j < m) (hl : j < zs.length) : rd (zs.take m) (j : Int) = rd zs (j : Int) := by
  rw [rd_nat (zs.take m) j (by rw [List.length_take]; omega), rd_nat zs j hl, List.getElem_take]
theorem rd_less (zs : List Int) (c j : Nat) (hc : c < zs.length) (hj : j + 1 < zs.length) : rd (zs.take c ++ zs.drop (c + 1)) (j : Int) = rd zs ((if j < c then j else j + 1 : Nat) : Int) := by
  have hl : (zs.take c).length = c := by rw [List.length_take]; omega
  by_cases h : j < c
  · rw [rd_append_left _ _ _ (by omega) (by omega), rd_take zs c j h (by omega), if_pos h]
  · rw [rd_append_right _ _ _ (by omega), rd_drop _ _ _ (by omega), if_neg h, hl]
    congr 1; omega
theorem less_none (zs : List Int) (c : Nat) (hc : c < zs.length) (asc : ∀ j : Nat, j + 1 < zs.length → rd zs (j : Int) < rd zs ((j + 1 : Nat) : Int)) : descW (zs.take c ++ zs.drop (c + 1)) = -1 := by
  have hl : (zs.take c ++ zs.drop (c + 1)).length = zs.length - 1 := by rw [List.length_append, List.length_take, List.length_drop]; omega
  apply descW_none
  intro j hj
  rw [List.mem_range, hl] at hj
  rw [show (j : Int) + 1 = ((j + 1 : Nat) : Int) by omega, rd_less zs c j hc (by omega), rd_less zs c (j + 1) hc (by omega)]
  rcases Nat.lt_trichotomy (j + 1) c with h | h | h
  · rw [if_pos (by omega), if_pos h]; exact asc j (by omega)
  · rw [if_pos (by omega), if_neg (by omega)]
    have a1 := asc j (by omega)
    have a2 := asc (j + 1) (by omega)
    omega
  · rw [if_neg (by omega), if_neg (by omega)]; exact asc (j + 1) (by omega)
theorem more_some (zs : List Int) (c : Nat) (hc : c < zs.length) (asc : ∀ j : Nat, j + 1 < zs.length → rd zs (j : Int) < rd zs ((j + 1 : Nat) : Int)) : descW (zs.take (c + 1) ++ [rd zs (c : Int)] ++ zs.drop (c + 1)) = (c : Int) + 1 := by
  have hl : (zs.take (c + 1)).length = c + 1 := by rw [List.length_take]; omega
  have lo : ∀ j : Nat, j ≤ c → rd (zs.take (c + 1) ++ [rd zs (c : Int)] ++ zs.drop (c + 1)) (j : Int) = rd zs (j : Int) := fun j hj => by
    rw [List.append_assoc, rd_append_left _ _ _ (by omega) (by omega), rd_take zs (c + 1) j (by omega) (by omega)]
  have hi : rd (zs.take (c + 1) ++ [rd zs (c : Int)] ++ zs.drop (c + 1)) ((c + 1 : Nat) : Int) = rd zs (c : Int) := by
    rw [List.append_assoc, rd_append_right _ _ _ (by omega), hl, show ((c + 1 : Nat) : Int) - ((c + 1 : Nat) : Int) = ((0 : Nat) : Int) by omega]
    rw [rd_nat _ 0 (by simp)]
    rfl
  apply descW_some
  · rw [List.length_append, List.length_append, hl]; simp; omega
  · intro j hj
    rw [List.mem_range] at hj
    rw [show (j : Int) + 1 = ((j + 1 : Nat) : Int) by omega, lo j (by omega), lo (j + 1) (by omega)]
    exact asc j (by omega)
  · rw [show (c : Int) + 1 = ((c + 1 : Nat) : Int) by omega, hi, lo c (Nat.le_refl _)]
    exact Int.le_refl _
theorem desc_end (zs : List Int) (a : Int) (c : Nat) (hc : c < zs.length) (hl : zs.length ≤ 200) (e : Int.tmod (wrap64 a) (zs.length : Int) = (c : Int))
    (asc : ∀ j : Nat, j + 1 < zs.length → rd zs (j : Int) < rd zs ((j + 1 : Nat) : Int)) (k : Nat) : zoneinfolaw15_TransitionsDescent.l0 (k + 1) zs a (zs.length : Int) = some true := by
  have e1 : wrap64 ((c : Int) + 1) = ((c + 1 : Nat) : Int) := by rw [w64 (by omega) (by omega)]; omega
  have t1 : (zs.take c).length ≤ 200 := by rw [List.length_take]; omega
  have t2 : (zs.take (c + 1)).length ≤ 200 := by rw [List.length_take]; omega
  have t3 : (zs.drop (c + 1)).length ≤ 200 := by rw [List.length_drop]; omega
  rw [zoneinfolaw15_TransitionsDescent.l0, if_neg (by omega), if_neg (by omega), e, e1, Int.toNat_natCast, Int.toNat_natCast]
  refine bnd rfl ?_
  rw [if_pos (by omega), if_pos (by omega), if_pos (by simp only [List.length_nil]; omega), List.nil_append]
  refine bnd rfl ?_
  rw [if_pos (by omega), if_pos (by omega), if_pos (by omega)]
  refine bnd rfl ?_
  rw [if_pos (by simp only [List.length_nil]; omega), List.nil_append]
  refine bnd rfl ?_
  rw [if_pos (by omega)]
  refine bnd rfl ?_
  rw [if_pos (by simp only [List.length_cons, List.length_nil]; omega)]
  refine bnd rfl ?_
  rw [if_pos (by simp only [List.length_append, List.length_cons, List.length_nil]; omega)]
  refine bnd (show transitions_Descent.f _ = some (-1) from congrArg some (less_none zs c hc asc)) ?_
  rw [if_pos rfl]
  refine bnd (show transitions_Descent.f _ = some ((c : Int) + 1) from congrArg some (more_some zs c hc asc)) ?_
  simp
theorem desc_loop (zs : List Int) (a : Int) (c : Nat) (hc : c < zs.length) (hl : zs.length ≤ 200) (e : Int.tmod (wrap64 a) (zs.length : Int) = (c : Int))
    (asc : ∀ j : Nat, j + 1 < zs.length → rd zs (j : Int) < rd zs ((j + 1 : Nat) : Int)) : ∀ (d i k : Nat), i + d = zs.length → d < k → 1 ≤ i → zoneinfolaw15_TransitionsDescent.l0 k zs a (i : Int) = some true := by
  intro d
  induction d with
  | zero =>
    intro i k hi hk h1
    obtain ⟨k, rfl⟩ : ∃ j, k = j + 1 := ⟨k - 1, by omega⟩
    obtain rfl : i = zs.length := by omega
    exact desc_end zs a c hc hl e asc k
  | succ d ih =>
    intro i k hi hk h1
    obtain ⟨k, rfl⟩ : ∃ j, k = j + 1 := ⟨k - 1, by omega⟩
    have w1 : wrap64 ((i : Int) - 1) = ((i - 1 : Nat) : Int) := by rw [w64 (by omega) (by omega)]; omega
    have hs := asc (i - 1) (by omega)
    rw [show i - 1 + 1 = i by omega] at hs
    rw [zoneinfolaw15_TransitionsDescent.l0, if_pos (by omega), if_pos (by omega), w1, if_pos (by omega), if_pos (by omega), if_neg (by omega), w64 (by omega) (by omega), show (i : Int) + 1 = ((i + 1 : Nat) : Int) by omega]
    exact ih (i + 1) k (by omega) (by omega) (by omega)
theorem TransitionsDescent : zoneinfolaw15_TransitionsDescent.Pure := by
  intro zs a _ _ hz ha
  have ha := wf_u8 ha
  refine ⟨1001, ?_⟩
  unfold zoneinfolaw15_TransitionsDescent.f
  refine bnd (awake15 _ (by omega)) ?_
  rw [if_pos rfl]
  by_cases h2 : (zs.length : Int) > 200
  · rw [decide_eq_true h2, zoneinfolaw15_TransitionsDescent.j0, if_pos rfl]
    exact bnd (awake15 _ (by omega)) rfl
  rw [decide_eq_false h2, zoneinfolaw15_TransitionsDescent.j0, if_neg (by decide)]
  refine bnd (show transitions_Descent.f zs = some (descW zs) from rfl) ?_
  rcases descW_cases zs with ⟨hd, asc⟩ | ⟨k, hk, hd, hb, hle⟩
  · rw [hd, if_neg (by decide)]
    by_cases h0 : zs.length = 0
    · rw [if_pos (by omega)]
    rw [if_neg (by omega)]
    have e : Int.tmod (wrap64 a) (zs.length : Int) = ((a % zs.length).toNat : Int) := by
      rw [w64 (by omega) (by omega), Int.tmod_eq_emod_of_nonneg ha.1]
      have := Int.emod_nonneg a (show (zs.length : Int) ≠ 0 by omega)
      omega
    have hc : (a % zs.length).toNat < zs.length := by
      have := Int.emod_lt_of_pos a (show (0 : Int) < zs.length by omega)
      have := Int.emod_nonneg a (show (zs.length : Int) ≠ 0 by omega)
      omega
    exact desc_loop zs a _ hc (by omega) e asc (zs.length - 1) 1 1000 (by omega) (by omega) (by omega)
  · rw [hd]
    have w1 : wrap64 ((k : Int) + 1 - 1) = (k : Int) := by rw [w64 (by omega) (by omega)]; omega
    rw [if_pos (by omega), if_pos (by omega), if_pos (by omega), if_pos (by omega), w1, if_pos (by omega), if_pos (by omega), if_pos (by rw [show (k : Int) + 1 = ((k + 1 : Nat) : Int) by omega]; exact hle), if_pos (by omega)]
    have hn : descW (zs.take (k + 1)) = -1 := by
      apply descW_none
      intro j hj
      rw [List.mem_range, List.length_take] at hj
      rw [show (j : Int) + 1 = ((j + 1 : Nat) : Int) by omega, rd_take zs (k + 1) j (by omega) (by omega), rd_take zs (k + 1) (j + 1) (by omega) (by omega)]
      exact hb j (by omega)
    rw [show ((k : Int) + 1).toNat = k + 1 by omega]
    refine bnd (show transitions_Descent.f (zs.take (k + 1)) = some (-1) from congrArg some hn) ?_
    rfl
end Go.Proofs.Ytcghocecejgeiaa.Pure
