/- The binary search beside the linear one: the plain law behind the walk. No condition. -/
import Derived.Test.YtfminjencigfeaaWWords
import Derived.Test.YtfminjencigfeaaWMore
import Derived.Test.YtfminjencigfeaaOwn
import Derived.Test.YtfminjencigfeaaGx15
import Derived.Test.YtfminjencigfeaaBase
import Derived.Test.YtfminjencigfeaaLook
set_option linter.unusedVariables false
set_option linter.unusedSimpArgs false
namespace Go.Proofs.Ytfminjencigfeaa.Pure
open Go.RowKit Go.Proofs.Ytfminjencigfeaa.G Go.Proofs.YtfminjencigfeaaW.PrintWords Go.Proofs.YtfminjencigfeaaW.PrintLast Go.Proofs.YtfminjencigfeaaW.PrintMore

theorem lin_loop (l : List Int) (ha : Asc l) (hl : l.length ≤ 200) (t u : Int) (r : Nat) (hr : Rk l t r) : ∀ (d i k : Nat), i + d = l.length → d + 300 < k →
    zoneinfolaw23_LookupMatchesLinearSearch.l0 k l t u (r : Int) (i : Int) = some true := by
  intro d
  induction d with
  | zero =>
    intro i k hi hk
    obtain ⟨k, rfl⟩ : ∃ j, k = j + 1 := ⟨k - 1, by omega⟩
    rw [zoneinfolaw23_LookupMatchesLinearSearch.l0, if_neg (by omega)]
    by_cases c : t > u
    · rw [if_pos c]
    · rw [if_neg c]
      obtain ⟨s, hs, he⟩ := rank_f l ha (by omega) u k (by omega)
      refine bnd he ?_
      have := hr.mono hs (by omega)
      simp only [ge_iff_le, Option.some.injEq, decide_eq_true_eq]
      omega
  | succ d ih =>
    intro i k hi hk
    obtain ⟨k, rfl⟩ : ∃ j, k = j + 1 := ⟨k - 1, by omega⟩
    rw [zoneinfolaw23_LookupMatchesLinearSearch.l0, if_pos (by omega), if_pos (by omega), if_neg ?_, w64 (by omega) (by omega), show (i : Int) + 1 = ((i + 1 : Nat) : Int) by omega]
    · exact ih (i + 1) k (by omega) (by omega)
    · rcases Nat.lt_or_ge i r with h | h
      · have := hr.2.1 i h
        simp only [bne_iff_ne, ne_eq, decide_eq_decide]
        omega
      · have := hr.2.2 i h (by omega)
        simp only [bne_iff_ne, ne_eq, decide_eq_decide]
        omega
theorem LookupMatchesLinearSearch : zoneinfolaw23_LookupMatchesLinearSearch.Pure := by
  intro l t u _ _ hw h1 h2
  have hb : ∀ k : Nat, 60 ≤ k → zoneinfolaw23_LookupMatchesLinearSearch.j0 (k + 1) l t u true = some true := fun k hk => by
    rw [zoneinfolaw23_LookupMatchesLinearSearch.j0, if_pos rfl]
    exact bnd (awake23 k hk) rfl
  refine ⟨1001, ?_⟩
  unfold zoneinfolaw23_LookupMatchesLinearSearch.f
  refine bnd (awake23 1001 (by omega)) ?_
  rw [if_pos rfl]
  by_cases c1 : (l.length : Int) > 200
  · rw [if_pos c1]; exact hb 1000 (by omega)
  rw [if_neg c1]
  obtain ⟨v, hv, hA⟩ := rdesc_f l (by omega) 1001 (by omega)
  refine bnd hv ?_
  by_cases c3 : v = -1
  · have ha := hA c3
    subst c3
    rw [show ((-1 : Int) != -1) = false by decide, zoneinfolaw23_LookupMatchesLinearSearch.j0, if_neg (by decide)]
    obtain ⟨r, hr, he⟩ := rank_f l ha (by omega) t 1000 (by omega)
    refine bnd he ?_
    rw [if_neg (by omega), show decide ((r : Int) > (l.length : Int)) = false by (have := hr.1; simp; omega), zoneinfolaw23_LookupMatchesLinearSearch.j1, if_neg (by decide)]
    exact lin_loop l ha (by omega) t u r hr l.length 0 999 (by omega) (by omega)
  · rw [show (v != -1) = true by simpa using c3]
    exact hb 1000 (by omega)
end Go.Proofs.Ytfminjencigfeaa.Pure
