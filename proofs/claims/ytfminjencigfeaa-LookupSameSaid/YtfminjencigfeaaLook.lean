/- The rank of a time in a list that rises: what the binary search and the linear one answer. -/
import Derived.Test.YtfminjencigfeaaWWords
import Derived.Test.YtfminjencigfeaaWMore
import Derived.Test.YtfminjencigfeaaOwn
import Derived.Test.YtfminjencigfeaaGx3
import Derived.Test.YtfminjencigfeaaGx7
import Derived.Test.YtfminjencigfeaaBase
set_option linter.unusedVariables false
set_option linter.unusedSimpArgs false
namespace Go.Proofs.Ytfminjencigfeaa.Pure
open Go.RowKit Go.Proofs.Ytfminjencigfeaa.G Go.Proofs.YtfminjencigfeaaW.PrintWords Go.Proofs.YtfminjencigfeaaW.PrintLast Go.Proofs.YtfminjencigfeaaW.PrintMore

def Asc (l : List Int) : Prop := ∀ j : Nat, j + 1 < l.length → rd l (j : Int) < rd l ((j + 1 : Nat) : Int)
theorem Asc.lt' {l : List Int} (h : Asc l) (i : Nat) : ∀ d : Nat, i + d + 1 < l.length → rd l (i : Int) < rd l ((i + d + 1 : Nat) : Int) := by
  intro d
  induction d with
  | zero => intro hd; exact h i hd
  | succ d ih =>
    intro hd
    have h1 := ih (by omega)
    have h2 := h (i + d + 1) (by omega)
    rw [show i + (d + 1) + 1 = i + d + 1 + 1 by omega]
    omega
theorem Asc.lt {l : List Int} (h : Asc l) {i j : Nat} (hij : i < j) (hj : j < l.length) : rd l (i : Int) < rd l (j : Int) := by
  have := h.lt' i (j - i - 1) (by omega)
  rwa [show i + (j - i - 1) + 1 = j by omega] at this
theorem Asc.le {l : List Int} (h : Asc l) {i j : Nat} (hij : i ≤ j) (hj : j < l.length) : rd l (i : Int) ≤ rd l (j : Int) := by
  rcases Nat.eq_or_lt_of_le hij with e | e
  · subst e; omega
  · have := h.lt e hj; omega
def Rk (l : List Int) (t : Int) (r : Nat) : Prop := r ≤ l.length ∧ (∀ j : Nat, j < r → rd l (j : Int) ≤ t) ∧ ∀ j : Nat, r ≤ j → j < l.length → t < rd l (j : Int)
theorem Rk.uniq {l : List Int} {t : Int} {r s : Nat} (h : Rk l t r) (g : Rk l t s) : r = s := by
  rcases Nat.lt_trichotomy r s with e | e | e
  · have h1 := h.2.2 r (Nat.le_refl _) (by have := g.1; omega)
    have h2 := g.2.1 r e
    omega
  · exact e
  · have h1 := g.2.2 s (Nat.le_refl _) (by have := h.1; omega)
    have h2 := h.2.1 s e
    omega
theorem Rk.mono {l : List Int} {t u : Int} {r s : Nat} (h : Rk l t r) (g : Rk l u s) (htu : t ≤ u) : r ≤ s := by
  rcases Nat.lt_or_ge s r with e | e
  · have h1 := g.2.2 s (Nat.le_refl _) (by have := h.1; omega)
    have h2 := h.2.1 s e
    omega
  · exact e
theorem rank_loop (l : List Int) (ha : Asc l) (hl : l.length ≤ 1000000) (t : Int) : ∀ (d lo hi k : Nat), lo + d = hi → hi ≤ l.length → d < k → (∀ j : Nat, j < lo → rd l (j : Int) ≤ t) → (∀ j : Nat, hi ≤ j → j < l.length → t < rd l (j : Int)) →
    ∃ r : Nat, Rk l t r ∧ lookup_Rank.l0 k l t (lo : Int) (hi : Int) = some (r : Int) := by
  intro d
  induction d using Nat.strongRecOn with
  | ind d ih =>
    intro lo hi k hd hh hk h1 h2
    obtain ⟨k, rfl⟩ : ∃ j, k = j + 1 := ⟨k - 1, by omega⟩
    rcases Nat.eq_zero_or_pos d with h0 | h0
    · subst h0
      obtain rfl : lo = hi := by omega
      exact ⟨lo, ⟨hh, h1, h2⟩, by rw [lookup_Rank.l0, if_neg (by omega)]⟩
    · have e1 : wrap64 ((lo : Int) + (hi : Int)) = ((lo + hi : Nat) : Int) := by rw [w64 (by omega) (by omega)]; omega
      have e2 : IntKind.u64.wrap ((lo + hi : Nat) : Int) = ((lo + hi : Nat) : Int) := u64w (by omega) (by omega)
      have e3 : wrap64 (((lo + hi : Nat) : Int) / 2) = (((lo + hi) / 2 : Nat) : Int) := by rw [w64 (by omega) (by omega)]; omega
      rw [lookup_Rank.l0, if_pos (by omega), e1, e2, e3, if_pos (by omega), if_pos (by omega)]
      by_cases hc : rd l (((lo + hi) / 2 : Nat) : Int) ≤ t
      · rw [if_pos hc, w64 (by omega) (by omega), show (((lo + hi) / 2 : Nat) : Int) + 1 = (((lo + hi) / 2 + 1 : Nat) : Int) by omega]
        exact ih (hi - ((lo + hi) / 2 + 1)) (by omega) _ _ k (by omega) hh (by omega) (fun j hj => by have := ha.le (i := j) (j := (lo + hi) / 2) (by omega) (by omega); omega) h2
      · rw [if_neg hc]
        exact ih ((lo + hi) / 2 - lo) (by omega) _ _ k (by omega) (by omega) (by omega) h1 (fun j hj hjl => by have := ha.le (i := (lo + hi) / 2) (j := j) (by omega) (by omega); omega)
theorem rank_f (l : List Int) (ha : Asc l) (hl : l.length ≤ 1000000) (t : Int) (k : Nat) (hk : l.length < k) : ∃ r : Nat, Rk l t r ∧ lookup_Rank.f k l t = some (r : Int) := by
  unfold lookup_Rank.f
  exact rank_loop l ha hl t l.length 0 l.length k (by omega) (by omega) hk (fun j hj => absurd hj (by omega)) (fun j h1 h2 => absurd h1 (by omega))
theorem rank_eq {l : List Int} (ha : Asc l) (hl : l.length ≤ 1000000) {t : Int} {k : Nat} (hk : l.length < k) {r : Nat} (h : Rk l t r) : lookup_Rank.f k l t = some (r : Int) := by
  obtain ⟨s, hs, he⟩ := rank_f l ha hl t k hk
  rw [he, hs.uniq h]
theorem rdesc_loop (zs : List Int) (hl : zs.length ≤ 1000000) : ∀ (d i k : Nat), i + d = zs.length → d < k → 1 ≤ i → (∀ j : Nat, j + 1 < i → rd zs (j : Int) < rd zs ((j + 1 : Nat) : Int)) →
    ∃ v, zoneinforef15_Descent.l0 k zs i = some v ∧ (v = -1 → Asc zs) := by
  intro d
  induction d with
  | zero =>
    intro i k hi hk h1 h
    obtain ⟨k, rfl⟩ : ∃ j, k = j + 1 := ⟨k - 1, by omega⟩
    rw [zoneinforef15_Descent.l0, if_neg (by omega)]
    exact ⟨_, rfl, fun _ j hj => h j (by omega)⟩
  | succ d ih =>
    intro i k hi hk h1 h
    obtain ⟨k, rfl⟩ : ∃ j, k = j + 1 := ⟨k - 1, by omega⟩
    have w1 : wrap64 ((i : Int) - 1) = ((i - 1 : Nat) : Int) := by rw [w64 (by omega) (by omega)]; omega
    rw [zoneinforef15_Descent.l0, if_pos (by omega), w1, if_pos (by omega), if_pos (by omega), if_pos (by omega)]
    by_cases hc : rd zs ((i - 1 : Nat) : Int) ≥ rd zs (i : Int)
    · rw [if_pos hc]
      exact ⟨_, rfl, fun e => by omega⟩
    · rw [if_neg hc, w64 (by omega) (by omega), show (i : Int) + 1 = ((i + 1 : Nat) : Int) by omega]
      refine ih (i + 1) k (by omega) (by omega) (by omega) (fun j hj => ?_)
      rcases Nat.lt_or_ge (j + 1) i with h3 | h3
      · exact h j h3
      · obtain rfl : i = j + 1 := by omega
        simp only [Nat.add_sub_cancel] at hc
        omega
theorem rdesc_f (zs : List Int) (hl : zs.length ≤ 1000000) (k : Nat) (hk : zs.length + 1 < k) : ∃ v, zoneinforef15_Descent.f k zs = some v ∧ (v = -1 → Asc zs) := by
  unfold zoneinforef15_Descent.f
  rcases Nat.eq_zero_or_pos zs.length with h0 | h0
  · obtain ⟨k, rfl⟩ : ∃ j, k = j + 1 := ⟨k - 1, by omega⟩
    rw [zoneinforef15_Descent.l0, if_neg (by omega)]
    exact ⟨_, rfl, fun _ j hj => by omega⟩
  · exact rdesc_loop zs hl (zs.length - 1) 1 k (by omega) (by omega) (by omega) (fun j hj => by omega)
theorem awake23 (k : Nat) (hk : 60 ≤ k) : zoneinfolaw23_awake.f k = some true :=
  at_rounds (fun k => zoneinfolaw23_awake.mono k) hk (by decide +kernel)
end Go.Proofs.Ytfminjencigfeaa.Pure
