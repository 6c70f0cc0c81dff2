/- When a table of designations is valid, by its bytes. -/
import Derived.Test.YtchlggnbgabddaaWWords
import Derived.Test.YtchlggnbgabddaaWMore
import Derived.Test.YtchlggnbgabddaaOwn
import Derived.Test.YtchlggnbgabddaaBase
import Derived.Test.YtchlggnbgabddaaBig
import Derived.Test.YtchlggnbgabddaaDes
set_option linter.unusedVariables false
set_option linter.unusedSimpArgs false
namespace Go.Proofs.Ytchlggnbgabddaa.Pure
open Go.RowKit Go.Proofs.Ytchlggnbgabddaa.G Go.Proofs.YtchlggnbgabddaaW.PrintWords Go.Proofs.YtchlggnbgabddaaW.PrintLast Go.Proofs.YtchlggnbgabddaaW.PrintMore
/-- Every byte is allowed. -/
def AllOk (l : List Int) : Prop := ∀ x ∈ l, ok0 x = true
theorem AllOk.rd {l : List Int} (h : AllOk l) (j : Nat) (hj : j < l.length) : ok0 (rd l (j : Int)) = true := by
  rw [rd_nat l j hj]; exact h _ (List.getElem_mem hj)
theorem AllOk.of {l : List Int} (h : ∀ j : Nat, j < l.length → ok0 (Go.Proofs.YtchlggnbgabddaaW.PrintWords.rd l (j : Int)) = true) : AllOk l := fun x hx => by
  obtain ⟨j, hj, rfl⟩ := List.mem_iff_getElem.1 hx
  rw [← rd_nat l j hj]; exact h j hj
theorem AllOk.append {l m : List Int} (h : AllOk l) (k : AllOk m) : AllOk (l ++ m) := fun x hx => (List.mem_append.1 hx).elim (h x) (k x)
theorem AllOk.take {l : List Int} (h : AllOk l) (n : Nat) : AllOk (l.take n) := fun x hx => h x (List.mem_of_mem_take hx)
theorem badAt_good {l : List Int} (h : AllOk l) : ∀ (d i : Nat), i + d = l.length → badAt l i = -1 := by
  intro d
  induction d with
  | zero => intro i hi; exact badAt_end l i (by omega)
  | succ d ih => intro i hi; rw [badAt_step l i (by omega), if_pos (h.rd i (by omega))]; exact ih (i + 1) (by omega)
theorem badAt_neg {l : List Int} : ∀ (d i : Nat), i + d = l.length → badAt l i < 0 → ∀ j : Nat, i ≤ j → j < l.length → ok0 (rd l (j : Int)) = true := by
  intro d
  induction d with
  | zero => intro i hi _ j h1 h2; omega
  | succ d ih =>
    intro i hi hb j h1 h2
    rw [badAt_step l i (by omega)] at hb
    by_cases hk : ok0 (rd l (i : Int)) = true
    · rw [if_pos hk] at hb
      rcases Nat.eq_or_lt_of_le h1 with h3 | h3
      · subst h3; exact hk
      · exact ih (i + 1) (by omega) hb j h3 h2
    · rw [if_neg hk] at hb; omega
theorem badAt_first {l : List Int} {k : Nat} (hk : k < l.length) (hb : ok0 (rd l (k : Int)) = false) (ho : ∀ j : Nat, j < k → ok0 (rd l (j : Int)) = true) : ∀ (d i : Nat), i + d = k → badAt l i = (k : Int) := by
  intro d
  induction d with
  | zero => intro i hi; obtain rfl : i = k := by omega
            rw [badAt_step l i hk, hb, if_neg (by decide)]
  | succ d ih => intro i hi; rw [badAt_step l i (by omega), if_pos (ho i (by omega))]; exact ih (i + 1) (by omega)
theorem badOf_good {l : List Int} (h : AllOk l) : badOf l = if l.length = 0 then (l.length : Int) else if rd l ((l.length : Int) - 1) = 0 then -1 else (l.length : Int) := by
  unfold badOf badEnd
  rw [badAt_good h l.length 0 (by omega), if_neg (by decide)]
theorem badOf_first {l : List Int} {k : Nat} (hk : k < l.length) (hb : ok0 (rd l (k : Int)) = false) (ho : ∀ j : Nat, j < k → ok0 (rd l (j : Int)) = true) : badOf l = (k : Int) := by
  unfold badOf badEnd
  rw [badAt_first hk hb ho k 0 (by omega), if_pos (by omega)]
theorem valid_all {l : List Int} (h : badOf l < 0) : AllOk l ∧ 1 ≤ l.length ∧ rd l ((l.length : Int) - 1) = 0 := by
  unfold badOf badEnd at h
  by_cases h0 : 0 ≤ badAt l 0
  · rw [if_pos h0] at h; omega
  rw [if_neg h0] at h
  refine ⟨AllOk.of fun j hj => badAt_neg l.length 0 (by omega) (by omega) j (by omega) hj, ?_⟩
  by_cases h1 : l.length = 0
  · rw [if_pos h1] at h; omega
  rw [if_neg h1] at h
  by_cases h2 : rd l ((l.length : Int) - 1) = 0
  · exact ⟨by omega, h2⟩
  · rw [if_neg h2] at h; omega
theorem valid_of {l : List Int} (h : AllOk l) (h1 : 1 ≤ l.length) (h2 : rd l ((l.length : Int) - 1) = 0) : badOf l = -1 := by
  rw [badOf_good h, if_neg (by omega), if_pos h2]
theorem rd_set (l : List Int) (k : Nat) (c : Int) (j : Nat) (hj : j < l.length) : rd (l.set k c) (j : Int) = if j = k then c else rd l (j : Int) := by
  rw [rd_nat _ j (by rw [List.length_set]; exact hj), rd_nat l j hj, List.getElem_set]
  by_cases h : k = j
  · subst h; simp
  · rw [if_neg h, if_neg (fun e => h e.symm)]
theorem rd_take (l : List Int) (n : Nat) (j : Nat) (hj : j < n) (hl : j < l.length) : rd (l.take n) (j : Int) = rd l (j : Int) := by
  rw [rd_nat _ j (by rw [List.length_take]; omega), rd_nat l j hl, List.getElem_take]
end Go.Proofs.Ytchlggnbgabddaa.Pure
