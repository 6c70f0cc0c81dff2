/- Designations: what Bad, Valid, Name, Build and their references answer, in plain lists. -/
import Derived.Test.YtchlggnbgabddaaWWords
import Derived.Test.YtchlggnbgabddaaWMore
import Derived.Test.YtchlggnbgabddaaOwn
import Derived.Test.YtchlggnbgabddaaGx1
import Derived.Test.YtchlggnbgabddaaGx18
import Derived.Test.YtchlggnbgabddaaGx19
import Derived.Test.YtchlggnbgabddaaGx2
import Derived.Test.YtchlggnbgabddaaGx20
import Derived.Test.YtchlggnbgabddaaGx21
import Derived.Test.YtchlggnbgabddaaGx3
import Derived.Test.YtchlggnbgabddaaGx4
import Derived.Test.YtchlggnbgabddaaGx5
import Derived.Test.YtchlggnbgabddaaBase
import Derived.Test.YtchlggnbgabddaaBig
set_option linter.unusedVariables false
set_option linter.unusedSimpArgs false
namespace Go.Proofs.Ytchlggnbgabddaa.Pure
open Go.RowKit Go.Proofs.Ytchlggnbgabddaa.G Go.Proofs.YtchlggnbgabddaaW.PrintWords Go.Proofs.YtchlggnbgabddaaW.PrintLast Go.Proofs.YtchlggnbgabddaaW.PrintMore

/-- A character that a designation may hold. -/
def alw (c : Int) : Bool := decide (c = 43 ∨ c = 45 ∨ (48 ≤ c ∧ c ≤ 57) ∨ (65 ≤ c ∧ c ≤ 90) ∨ (97 ≤ c ∧ c ≤ 122))
def ok0 (c : Int) : Bool := decide (c = 0) || alw c
theorem allowed_f (c : Int) : desigs_allowed.f c = some (ok0 c) := by
  unfold desigs_allowed.f ok0 alw
  by_cases h0 : c = 0
  · rw [if_pos h0]; simp [h0]
  rw [if_neg h0]
  by_cases h1 : c = 43
  · rw [if_pos h1]; simp [h1]
  rw [if_neg h1]
  by_cases h2 : c = 45
  · rw [if_pos h2]; simp [h2]
  rw [if_neg h2]
  have e : ∀ b : Bool, (b = true ↔ ((48 ≤ c ∧ c ≤ 57) ∨ (65 ≤ c ∧ c ≤ 90) ∨ (97 ≤ c ∧ c ≤ 122))) → some b = some (decide (c = 0) || decide (c = 43 ∨ c = 45 ∨ (48 ≤ c ∧ c ≤ 57) ∨ (65 ≤ c ∧ c ≤ 90) ∨ (97 ≤ c ∧ c ≤ 122))) := by
    intro b hb
    congr 1
    rw [Bool.eq_iff_iff, hb]
    simp [h0, h1, h2]
  repeat' split
  all_goals refine e _ ?_
  all_goals first | (simp only [decide_eq_true_iff]; omega) | (simp only [true_iff]; omega) | (simp only [Bool.false_eq_true, false_iff]; omega)
theorem rallowed_f (c : Int) : zoneinforef12_Allowed.f c = some (alw c) := by
  unfold zoneinforef12_Allowed.f alw
  by_cases h1 : c = 43
  · rw [if_pos h1]; simp [h1]
  rw [if_neg h1]
  by_cases h2 : c = 45
  · rw [if_pos h2]; simp [h2]
  rw [if_neg h2]
  have e : ∀ b : Bool, (b = true ↔ ((48 ≤ c ∧ c ≤ 57) ∨ (65 ≤ c ∧ c ≤ 90) ∨ (97 ≤ c ∧ c ≤ 122))) → some b = some (decide (c = 43 ∨ c = 45 ∨ (48 ≤ c ∧ c ≤ 57) ∨ (65 ≤ c ∧ c ≤ 90) ∨ (97 ≤ c ∧ c ≤ 122))) := by
    intro b hb
    congr 1
    rw [Bool.eq_iff_iff, hb]
    simp [h1, h2]
  repeat' split
  all_goals refine e _ ?_
  all_goals first | (simp only [decide_eq_true_iff]; omega) | (simp only [true_iff]; omega) | (simp only [Bool.false_eq_true, false_iff]; omega)
/-- The first place at or behind i that holds what may not be, else -1. -/
def badAt (l : List Int) (i : Nat) : Int := match (l.drop i).findIdx? (fun c => !ok0 c) with
  | some j => ((i + j : Nat) : Int)
  | none => -1
theorem badAt_end (l : List Int) (i : Nat) (h : l.length ≤ i) : badAt l i = -1 := by
  unfold badAt
  rw [List.drop_eq_nil_of_le h]
  rfl
theorem badAt_step (l : List Int) (i : Nat) (h : i < l.length) : badAt l i = if ok0 (rd l (i : Int)) = true then badAt l (i + 1) else (i : Int) := by
  unfold badAt
  rw [drop_rd l i h, List.findIdx?_cons]
  cases hk : ok0 (rd l (i : Int)) with
  | false => simp
  | true =>
    simp only [Bool.not_true, Bool.false_eq_true, if_false, if_true]
    cases hf : (l.drop (i + 1)).findIdx? (fun c => !ok0 c) with
    | none => rfl
    | some j => simp only [Option.map_some]; omega
/-- What Bad answers. -/
def badEnd (l : List Int) (b : Int) : Int := if 0 ≤ b then b else if l.length = 0 then (l.length : Int) else if rd l ((l.length : Int) - 1) = 0 then -1 else (l.length : Int)
def badOf (l : List Int) : Int := badEnd l (badAt l 0)
theorem index_f (l : List Int) (hl : l.length ≤ 4611686018427387904) : ∀ (d i k : Nat), i + d = l.length → d < k → slices_IndexFunc_byte_byte.l0 k l (l.length : Int) (i : Int) = some (badAt l i) := by
  intro d
  induction d with
  | zero =>
    intro i k hi hk
    obtain ⟨k, rfl⟩ : ∃ m, k = m + 1 := ⟨k - 1, by omega⟩
    simp only [slices_IndexFunc_byte_byte.l0]
    rw [if_neg (by omega), badAt_end l i (by omega)]
  | succ d ih =>
    intro i k hi hk
    obtain ⟨k, rfl⟩ : ∃ m, k = m + 1 := ⟨k - 1, by omega⟩
    simp only [slices_IndexFunc_byte_byte.l0]
    rw [if_pos (by omega), if_pos (by omega), if_pos (by omega)]
    have hb : desigs_Bad_1.f (rd l (i : Int)) = some (!ok0 (rd l (i : Int))) := by
      unfold desigs_Bad_1.f
      exact bnd (allowed_f _) rfl
    refine bnd hb ?_
    rw [badAt_step l i (by omega)]
    cases ok0 (rd l (i : Int)) with
    | false => rw [if_pos (by decide), if_neg (by decide)]
    | true => rw [if_neg (by decide), if_pos rfl, w64 (by omega) (by omega), show (i : Int) + 1 = ((i + 1 : Nat) : Int) by omega, ih (i + 1) k (by omega) (by omega)]
theorem badAt_range (l : List Int) : ∀ (d i : Nat), i + d = l.length → -1 ≤ badAt l i ∧ badAt l i < (l.length : Int) ∨ badAt l i = -1 := by
  intro d
  induction d with
  | zero => intro i hi; exact .inr (badAt_end l i (by omega))
  | succ d ih =>
    intro i hi
    rw [badAt_step l i (by omega)]
    split
    · exact ih (i + 1) (by omega)
    · exact .inl ⟨by omega, by omega⟩
theorem bad_f (l : List Int) (hl : l.length ≤ 4611686018427387904) (k : Nat) (hk : l.length < k) : desigs_Bad.f k l = some (badOf l) := by
  unfold desigs_Bad.f
  have h := index_f l hl l.length 0 k (by omega) hk
  refine bnd (show slices_IndexFunc_byte_byte.f k l = some (badAt l 0) from h) ?_
  unfold badOf badEnd
  by_cases h0 : 0 ≤ badAt l 0
  · rw [if_pos h0, if_pos h0]
  rw [if_neg h0, if_neg h0]
  by_cases h1 : l.length = 0
  · rw [if_pos (by omega), if_pos h1]
  rw [if_neg (by omega), if_neg h1, w64 (by omega) (by omega), if_pos (by omega), if_pos (by omega)]
  split <;> rfl
theorem valid_f (l : List Int) (hl : l.length ≤ 4611686018427387904) (k : Nat) (hk : l.length < k) : desigs_Valid.f k l = some (decide (badOf l < 0)) := by
  unfold desigs_Valid.f
  exact bnd (bad_f l hl k hk) rfl
theorem rbad_l (l : List Int) (hl : l.length ≤ 4611686018427387904) : ∀ (d i k : Nat), i + d = l.length → d < k → zoneinforef12_Bad.l0 k l (i : Int) = some (badEnd l (badAt l i)) := by
  intro d
  induction d with
  | zero =>
    intro i k hi hk
    obtain ⟨k, rfl⟩ : ∃ m, k = m + 1 := ⟨k - 1, by omega⟩
    have hE : badEnd l (badAt l i) = if l.length = 0 then (l.length : Int) else if rd l ((l.length : Int) - 1) = 0 then -1 else (l.length : Int) := by
      rw [badAt_end l i (by omega)]
      unfold badEnd
      rw [if_neg (show ¬ (0 : Int) ≤ -1 by decide)]
    rw [hE]
    simp only [zoneinforef12_Bad.l0]
    rw [if_neg (show ¬ (i : Int) < (l.length : Int) by omega)]
    by_cases h1 : l.length = 0
    · rw [if_neg (show ¬ (l.length : Int) > 0 by omega), if_pos h1]
    rw [if_pos (show (l.length : Int) > 0 by omega), if_neg h1, w64 (by omega) (by omega), if_pos (by omega), if_pos (by omega)]
    split <;> rfl
  | succ d ih =>
    intro i k hi hk
    obtain ⟨k, rfl⟩ : ∃ m, k = m + 1 := ⟨k - 1, by omega⟩
    simp only [zoneinforef12_Bad.l0]
    rw [if_pos (show (i : Int) < (l.length : Int) by omega), if_pos (show (0 : Int) ≤ (i : Int) by omega)]
    have hn := ih (i + 1) k (by omega) (by omega)
    have hs := badAt_step l i (by omega)
    have e : wrap64 ((i : Int) + 1) = ((i + 1 : Nat) : Int) := by rw [w64 (by omega) (by omega)]; omega
    rw [e]
    by_cases h0 : rd l (i : Int) = 0
    · rw [if_pos h0]
      rw [h0, if_pos (show ok0 0 = true from rfl)] at hs
      rw [hs]
      exact hn
    · rw [if_neg h0]
      refine bnd (rallowed_f _) ?_
      have hk : ok0 (rd l (i : Int)) = alw (rd l (i : Int)) := by unfold ok0; rw [decide_eq_false h0, Bool.false_or]
      rw [hk] at hs
      cases ha : alw (rd l (i : Int)) with
      | true =>
        rw [ha, if_pos rfl] at hs
        rw [if_pos rfl, hs]
        exact hn
      | false =>
        rw [ha, if_neg (by decide)] at hs
        rw [if_neg (by decide), hs]
        unfold badEnd
        rw [if_pos (show (0 : Int) ≤ (i : Int) by omega)]
theorem rbad_f (l : List Int) (hl : l.length ≤ 4611686018427387904) (k : Nat) (hk : l.length < k) : zoneinforef12_Bad.f k l = some (badOf l) := rbad_l l hl l.length 0 k (by omega) hk
theorem badOf_neg (l : List Int) : badOf l < 0 ↔ badOf l = -1 := by
  have h := badAt_range l l.length 0 (by omega)
  unfold badOf badEnd
  split
  · omega
  · split
    · omega
    · split <;> omega
theorem rvalid_f (l : List Int) (hl : l.length ≤ 4611686018427387904) (k : Nat) (hk : l.length < k) : zoneinforef12_Valid.f k l = some (decide (badOf l < 0)) := by
  unfold zoneinforef12_Valid.f
  refine bnd (rbad_f l hl k hk) ?_
  congr 1
  rw [Bool.eq_iff_iff, beq_iff_eq, decide_eq_true_iff, badOf_neg]
theorem awake12 (k : Nat) (hk : 40 ≤ k) : zoneinfolaw12_awake.f k = some true :=
  at_rounds (fun k => zoneinfolaw12_awake.mono k) hk (by decide +kernel)
end Go.Proofs.Ytchlggnbgabddaa.Pure
