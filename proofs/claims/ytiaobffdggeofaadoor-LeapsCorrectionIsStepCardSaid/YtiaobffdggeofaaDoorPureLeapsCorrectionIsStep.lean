/- The correction is a step at each leap second record: the plain law behind the walk. No condition. -/
import Derived.Test.YtiaobffdggeofaaDoorWWords
import Derived.Test.YtiaobffdggeofaaDoorWMore
import Derived.Test.YtiaobffdggeofaaDoorOwn
import Derived.Test.YtiaobffdggeofaaDoorGx11
import Derived.Test.YtiaobffdggeofaaDoorBase
import Derived.Test.YtiaobffdggeofaaDoorBig
import Derived.Test.YtiaobffdggeofaaDoorOpn
import Derived.Test.YtiaobffdggeofaaDoorLeap
set_option linter.unusedVariables false
set_option linter.unusedSimpArgs false
namespace Go.Proofs.YtiaobffdggeofaaDoor.Pure
open Go.RowKit Go.Proofs.YtiaobffdggeofaaDoor.G Go.Proofs.YtiaobffdggeofaaDoorW.PrintWords Go.Proofs.YtiaobffdggeofaaDoorW.PrintLast Go.Proofs.YtiaobffdggeofaaDoorW.PrintMore

theorem pos_at (l : List S38) (h : Asc l) (i : Nat) (hi : i < l.length) : Pos l (At l i) (i + 1) :=
  ⟨by omega, fun j hj => (Nat.lt_succ_iff_lt_or_eq.1 hj).elim (fun h1 => Int.le_of_lt (h j i h1 hi)) (fun e => by subst e; exact Int.le_refl _), fun j hj hj2 => h i j (by omega) hj2⟩
theorem pos_before (l : List S38) (h : Asc l) (i : Nat) (hi : i < l.length) : Pos l (At l i - 1) i :=
  ⟨by omega, fun j hj => by have := h j i hj hi; omega, fun j hj hj2 => by
    rcases Nat.lt_or_ge i j with h1 | h1
    · have := h i j h1 hj2; omega
    · obtain rfl : i = j := by omega
      omega⟩
theorem step_l1 (l : List S38) (hw : WfL l) (hl : l.length ≤ 100) (h : Asc l) (t : Int) (ht : -9223372036854775808 ≤ t ∧ t ≤ 9223372036854775807) : ∀ (d i k : Nat) (kn : Bool), i + d = l.length → d + 200 < k → (kn = false → ∀ j, j < i → At l j ≠ t) →
    zoneinfolaw17_LeapsCorrectionIsStep.l1 k l t kn (i : Int) = some true := by
  intro d
  induction d with
  | zero =>
    intro i k kn hi hk hkn
    obtain ⟨k, rfl⟩ : ∃ j, k = j + 1 := ⟨k - 1, by omega⟩
    rw [zoneinfolaw17_LeapsCorrectionIsStep.l1, if_neg (by omega)]
    cases kn
    · rw [if_neg (by decide)]
      by_cases hm : t = -9223372036854775808
      · rw [if_pos hm]
      · rw [if_neg hm]
        obtain ⟨p, hp⟩ := pos_ex l h t
        have hp2 : Pos l (t - 1) p := ⟨hp.1, fun j hj => by have := hp.2.1 j hj; have := hkn rfl j (by have := hp.1; omega); omega, fun j hj hj2 => by have := hp.2.2 j hj hj2; omega⟩
        rw [w64 (by omega) (by omega)]
        refine bnd (corr_f l hw (by omega) t p hp _ (by omega)) ?_
        refine bnd (corr_f l hw (by omega) _ p hp2 _ (by omega)) ?_
        simp
    · rw [if_pos rfl]
  | succ d ih =>
    intro i k kn hi hk hkn
    obtain ⟨k, rfl⟩ : ∃ j, k = j + 1 := ⟨k - 1, by omega⟩
    have w1 : wrap64 ((i : Int) + 1) = ((i + 1 : Nat) : Int) := by unfold wrap64; omega
    rw [zoneinfolaw17_LeapsCorrectionIsStep.l1, if_pos (by omega)]
    cases kn
    · rw [if_neg (by decide), if_pos (by omega), w1]
      refine ih (i + 1) k _ (by omega) (by omega) (fun hf j hj => ?_)
      rcases Nat.lt_or_ge j i with h1 | h1
      · exact hkn rfl j h1
      · obtain rfl : j = i := by omega
        exact beq_eq_false_iff_ne.1 hf
    · rw [if_pos rfl, w1]
      exact ih (i + 1) k true (by omega) (by omega) (fun hf => by cases hf)
theorem step_end (l : List S38) (hw : WfL l) (hl : l.length ≤ 100) (hv : VB l 4 = true) (t : Int) (ht : -9223372036854775808 ≤ t ∧ t ≤ 9223372036854775807) (k : Nat) (hk : 500 < k) :
    zoneinfolaw17_LeapsCorrectionIsStep.l0 k l t (l.length : Int) = some true := by
  have h := VB_Asc l hw (by omega) 4 hv
  obtain ⟨k, rfl⟩ : ∃ j, k = j + 2 := ⟨k - 2, by omega⟩
  have j2 : zoneinfolaw17_LeapsCorrectionIsStep.j2 (k + 1) l t false = some true := by
    rw [zoneinfolaw17_LeapsCorrectionIsStep.j2, if_neg (by decide)]
    exact step_l1 l hw hl h t ht l.length 0 k false (by omega) (by omega) (fun _ j hj => by omega)
  rw [zoneinfolaw17_LeapsCorrectionIsStep.l0, if_neg (by omega)]
  refine bnd (exp_f l hw (by omega)) ?_
  unfold expB
  by_cases h2 : l.length < 2
  · rw [if_pos h2]; exact j2
  · rw [if_neg h2]
    by_cases hc : Co l (l.length - 1) = Co l (l.length - 2)
    · have e : wrap64 ((l.length : Int) - 1) = ((l.length - 1 : Nat) : Int) := by unfold wrap64; omega
      rw [if_pos hc]
      dsimp only
      rw [if_pos rfl, if_neg (by omega), e, if_pos (by omega), if_pos (by omega), if_pos (show At l (l.length - 1) = (rd_T38 l ((l.length - 1 : Nat) : Int)).f0 from rfl)]
      have hn := VB_nonneg l hw (by omega) 4 hv (l.length - 1) (by omega)
      have hr := (hw.rd (l.length - 1) (by omega)).1
      have ea : (rd_T38 l ((l.length - 1 : Nat) : Int)).f0 = At l (l.length - 1) := rfl
      rw [ea] at hr
      rw [w64 (x := At l (l.length - 1) - 1) (by omega) (by omega)]
      refine bnd (corr_f l hw (by omega) _ _ (pos_at l h (l.length - 1) (by omega)) _ (by omega)) ?_
      refine bnd (corr_f l hw (by omega) _ _ (pos_before l h (l.length - 1) (by omega)) _ (by omega)) ?_
      have : corr l (l.length - 1 + 1) = corr l (l.length - 1) := by
        unfold corr
        rw [if_neg (by omega), if_neg (by omega), Nat.add_sub_cancel, hc, show l.length - 1 - 1 = l.length - 2 by omega]
      rw [this, show (corr l (l.length - 1) != corr l (l.length - 1)) = false by simp]
      exact j2
    · rw [if_neg hc]; exact j2
theorem step_loop (l : List S38) (hw : WfL l) (hl : l.length ≤ 100) (hv : VB l 4 = true) (t : Int) (ht : -9223372036854775808 ≤ t ∧ t ≤ 9223372036854775807) : ∀ (d i k : Nat), i + d = l.length → d + 600 < k →
    zoneinfolaw17_LeapsCorrectionIsStep.l0 k l t (i : Int) = some true := by
  have h := VB_Asc l hw (by omega) 4 hv
  intro d
  induction d with
  | zero =>
    intro i k hi hk
    obtain rfl : i = l.length := by omega
    exact step_end l hw hl hv t ht k (by omega)
  | succ d ih =>
    intro i k hi hk
    obtain ⟨k, rfl⟩ : ∃ j, k = j + 1 := ⟨k - 1, by omega⟩
    have w1 : wrap64 ((i : Int) + 1) = ((i + 1 : Nat) : Int) := by unfold wrap64; omega
    have hco := hw.rd i (by omega)
    have hn := VB_nonneg l hw (by omega) 4 hv i (by omega)
    have ea : (rd_T38 l (i : Int)).f0 = At l i := rfl
    have nx := ih (i + 1) k (by omega) (by omega)
    rw [ea] at hco
    rw [zoneinfolaw17_LeapsCorrectionIsStep.l0, if_pos (by omega), if_pos (by omega), ea]
    refine bnd (corr_f l hw (by omega) _ _ (pos_at l h i (by omega)) _ (by omega)) ?_
    have e1 : corr l (i + 1) = wrap64 ((rd_T38 l (i : Int)).f1) := by
      unfold corr Co
      rw [if_neg (by omega), Nat.add_sub_cancel]
      exact (w64 (by omega) (by omega)).symm
    rw [if_pos e1, w64 (x := At l i - 1) (by omega) (by omega)]
    rcases Nat.eq_zero_or_pos i with h0 | h0
    · subst h0
      rw [if_neg (by omega)]
      refine bnd (corr_f l hw (by omega) _ _ (pos_before l h 0 (by omega)) _ (by omega)) ?_
      rw [if_pos (show corr l 0 = 0 from rfl), w1]
      exact nx
    · have hco2 := (hw.rd (i - 1) (by omega)).2
      have e : wrap64 ((i : Int) - 1) = ((i - 1 : Nat) : Int) := by unfold wrap64; omega
      rw [if_pos (by omega), e, if_pos (by omega), if_pos (by omega)]
      refine bnd (corr_f l hw (by omega) _ _ (pos_before l h i (by omega)) _ (by omega)) ?_
      have e2 : corr l i = wrap64 ((rd_T38 l ((i - 1 : Nat) : Int)).f1) := by
        unfold corr Co
        rw [if_neg (by omega)]
        exact (w64 (by omega) (by omega)).symm
      rw [if_pos e2, w1]
      exact nx
theorem LeapsCorrectionIsStep : Opn.LeapsCorrectionIsStep := by
  intro l t wl wt
  have hw := WfL.of wl.2
  have ht := wf_i64 wt
  refine ⟨3000, ?_⟩
  unfold zoneinfolaw17_LeapsCorrectionIsStep.f
  refine bnd (awake17 _ (by omega)) ?_
  rw [if_pos rfl]
  have far : zoneinfolaw17_LeapsCorrectionIsStep.j0 3000 l t true = some true := by
    rw [zoneinfolaw17_LeapsCorrectionIsStep.j0, if_pos rfl]
    exact bnd (awake17 _ (by omega)) rfl
  by_cases h2 : (l.length : Int) > 100
  · rw [if_pos h2]; exact far
  · rw [if_neg h2]
    refine bnd (rvalid_f l hw (by omega) 4 _ (by omega)) ?_
    by_cases hv : VB l 4 = true
    · rw [hv, zoneinfolaw17_LeapsCorrectionIsStep.j0, if_neg (by decide)]
      exact step_loop l hw (by omega) hv t ht l.length 0 _ (by omega) (by omega)
    · rw [Bool.eq_false_iff.2 hv]; exact far
end Go.Proofs.YtiaobffdggeofaaDoor.Pure
