/- Consistency of indicators under more standard and fewer UT ones: the plain law behind the walk. No condition. -/
import Derived.Test.YtbiglbdanppjpaaDoorWWords
import Derived.Test.YtbiglbdanppjpaaDoorWMore
import Derived.Test.YtbiglbdanppjpaaDoorOwn
import Derived.Test.YtbiglbdanppjpaaDoorGx5
import Derived.Test.YtbiglbdanppjpaaDoorBase
import Derived.Test.YtbiglbdanppjpaaDoorInd
set_option linter.unusedVariables false
set_option linter.unusedSimpArgs false
namespace Go.Proofs.YtbiglbdanppjpaaDoor.Pure
open Go.RowKit Go.Proofs.YtbiglbdanppjpaaDoor.G Go.Proofs.YtbiglbdanppjpaaDoorW.PrintWords Go.Proofs.YtbiglbdanppjpaaDoorW.PrintLast Go.Proofs.YtbiglbdanppjpaaDoorW.PrintMore

theorem cons_nil (s : List Bool) : consB s [] = true := by cases s <;> rfl
theorem cons_self (u : List Bool) : consB u u = true := by
  induction u with
  | nil => rfl
  | cons a u ih => simp [consB, ih]
theorem cons_none (n : Nat) : ∀ s : List Bool, consB s (List.replicate n false) = true := by
  induction n with
  | zero => intro s; exact cons_nil s
  | succ n ih => intro s; cases s <;> simp [List.replicate_succ, consB, ih]
theorem cons_set (s : List Bool) : ∀ (u : List Bool) (j : Nat), consB s u = true → consB (s.set j true) u = true := by
  induction s with
  | nil => intro u j h; simpa using h
  | cons a s ih =>
    intro u j h
    cases u with
    | nil => exact cons_nil _
    | cons b u =>
      cases j with
      | zero => simp [consB] at h ⊢; exact h.2
      | succ j => simp [consB] at h ⊢; exact ⟨h.1, ih u j h.2⟩
theorem cons_unset (u : List Bool) : ∀ (s : List Bool) (j : Nat), consB s u = true → consB s (u.set j false) = true := by
  induction u with
  | nil => intro s j h; simpa using h
  | cons b u ih =>
    intro s j h
    cases s with
    | nil =>
      cases j with
      | zero => simp [consB] at h ⊢; exact h.2
      | succ j => simp [consB] at h ⊢; exact ⟨h.1, ih [] j h.2⟩
    | cons a s =>
      cases j with
      | zero => simp [consB] at h ⊢; exact h.2
      | succ j => simp [consB] at h ⊢; exact ⟨h.1, ih s j h.2⟩
theorem cons_snoc (s : List Bool) : ∀ u : List Bool, consB s u = true → consB (s ++ [false]) u = true := by
  induction s with
  | nil =>
    intro u h
    cases u with
    | nil => rfl
    | cons b u => simp [consB] at h ⊢; exact h
  | cons a s ih =>
    intro u h
    cases u with
    | nil => exact cons_nil _
    | cons b u => simp [consB] at h ⊢; exact ⟨h.1, ih u h.2⟩
theorem at_mod (a : Int) (ha : 0 ≤ a ∧ a < 65536) (n : Nat) (hn : n ≠ 0) : ∃ j : Nat, Int.tmod (wrap64 a) (n : Int) = (j : Int) ∧ j < n := by
  have h1 := Int.emod_nonneg a (show (n : Int) ≠ 0 by omega)
  have h2 := Int.emod_lt_of_pos a (show (0 : Int) < n by omega)
  refine ⟨(a % (n : Int)).toNat, ?_, by omega⟩
  rw [w64 (by omega) (by omega), Int.tmod_eq_emod_of_nonneg ha.1]
  omega
theorem cons_j2 (s u m : List Bool) (a : Int) (ha : 0 ≤ a ∧ a < 65536) (hu : u.length ≤ 1000) (hm : m.length ≤ 1000) (h : consB s u = true) (h2 : consB m u = true) :
    zoneinfolaw18_IndicatorsConsistency.j2 2900 s u a m = some true := by
  rw [zoneinfolaw18_IndicatorsConsistency.j2]
  refine bnd rfl ?_
  rw [if_pos (by simp; omega)]
  refine bnd rfl ?_
  rw [List.nil_append]
  have h3 := cons_snoc m u h2
  by_cases h0 : u.length = 0
  · rw [if_neg (by omega)]
    refine bnd (icons_f m u (by omega) _ (by omega)) ?_
    rw [h2, if_pos rfl]
    refine bnd (icons_f s u (by omega) _ (by omega)) ?_
    rw [h, if_pos rfl, if_pos (by omega)]
    refine bnd (icons_f _ u (by omega) _ (by omega)) ?_
    rw [h3]
  · obtain ⟨j, hj, hl⟩ := at_mod a ha u.length h0
    rw [if_pos (by omega), if_neg (by omega), hj, if_pos (by omega), if_pos (by omega), Int.toNat_natCast]
    refine bnd (icons_f m u (by omega) _ (by omega)) ?_
    rw [h2, if_pos rfl]
    refine bnd (icons_f s _ (by rw [List.length_set]; omega) _ (by rw [List.length_set]; omega)) ?_
    rw [cons_unset u s j h, if_pos rfl, if_pos (by omega)]
    refine bnd (icons_f _ u (by omega) _ (by omega)) ?_
    rw [h3]
theorem IndicatorsConsistency : zoneinfolaw18_IndicatorsConsistency.Pure := by
  intro s u a _ _ _ _ ha
  have ha := wf_u16 ha
  refine ⟨2903, ?_⟩
  unfold zoneinfolaw18_IndicatorsConsistency.f
  refine bnd (awake18 _ (by omega)) ?_
  rw [if_pos rfl]
  have far : zoneinfolaw18_IndicatorsConsistency.j0 2903 s u a true = some true := by
    rw [zoneinfolaw18_IndicatorsConsistency.j0, if_pos rfl]
    exact bnd (awake18 _ (by omega)) rfl
  split
  · exact far
  by_cases h2 : (u.length : Int) > 1000
  · rw [decide_eq_true h2]; exact far
  rw [decide_eq_false h2, show (2903 : Nat) = 2902 + 1 from rfl, zoneinfolaw18_IndicatorsConsistency.j0, if_neg (by decide), if_pos (by omega), if_pos (by omega), Int.toNat_natCast]
  refine bnd (icons_f u u (by omega) _ (by omega)) ?_
  rw [cons_self, if_pos rfl]
  refine bnd (icons_f s _ (by rw [List.length_replicate]; omega) _ (by rw [List.length_replicate]; omega)) ?_
  rw [cons_none, if_pos rfl]
  refine bnd (icons_f s [] (by simp) _ (by simp)) ?_
  rw [cons_nil, show (2902 : Nat) = 2901 + 1 from rfl, zoneinfolaw18_IndicatorsConsistency.j1, if_neg (by decide)]
  refine bnd (icons_f s u (by omega) _ (by omega)) ?_
  by_cases hc : consB s u = true
  · rw [if_pos hc]
    refine bnd rfl ?_
    rw [if_pos (by simp; omega)]
    refine bnd rfl ?_
    rw [List.nil_append]
    have fin : ∀ m : List Bool, m.length ≤ 1000 → consB m u = true → zoneinfolaw18_IndicatorsConsistency.j2 2901 s u a m = some true := fun m hm h => by
      have := cons_j2 s u m a ha (by omega) hm hc h
      exact (zoneinfolaw18_IndicatorsConsistency.mono_l 2900).2.2 _ _ _ _ _ this
    by_cases h0 : s.length = 0
    · rw [if_neg (by omega)]; exact fin s (by omega) hc
    · obtain ⟨j, hj, hl⟩ := at_mod a ha s.length h0
      rw [if_pos (by omega), if_neg (by omega), hj, if_pos (by omega), if_pos (by omega), Int.toNat_natCast]
      exact fin _ (by rw [List.length_set]; omega) (cons_set s u j hc)
  · rw [if_neg hc]
end Go.Proofs.YtbiglbdanppjpaaDoor.Pure
