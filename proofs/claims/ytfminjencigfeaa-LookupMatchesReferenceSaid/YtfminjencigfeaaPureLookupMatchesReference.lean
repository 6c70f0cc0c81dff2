/- lookup beside its reference: the plain law behind the walk. No condition. -/
import Derived.Test.YtfminjencigfeaaWWords
import Derived.Test.YtfminjencigfeaaWMore
import Derived.Test.YtfminjencigfeaaOwn
import Derived.Test.YtfminjencigfeaaGx14
import Derived.Test.YtfminjencigfeaaBase
import Derived.Test.YtfminjencigfeaaLook
import Derived.Test.YtfminjencigfeaaOpn
import Derived.Test.YtfminjencigfeaaBlk
import Derived.Test.YtfminjencigfeaaRes
import Derived.Test.YtfminjencigfeaaResR
import Derived.Test.YtfminjencigfeaaSayLookupMatchesReference
set_option linter.unusedVariables false
set_option linter.unusedSimpArgs false
namespace Go.Proofs.Ytfminjencigfeaa.Pure
open Go.RowKit Go.Proofs.Ytfminjencigfeaa.G Go.Proofs.YtfminjencigfeaaW.PrintWords Go.Proofs.YtfminjencigfeaaW.PrintLast Go.Proofs.YtfminjencigfeaaW.PrintMore

theorem mod_nat {a : Int} (h : 0 ≤ a ∧ a < 256) {n : Nat} (hn : 0 < n) : ∃ i : Nat, Int.tmod (wrap64 a) (n : Int) = (i : Int) ∧ i < n := by
  rw [w64 (by omega) (by omega), Int.tmod_eq_emod_of_nonneg (by omega)]
  have h1 := Int.emod_nonneg a (b := (n : Int)) (by omega)
  have h2 := Int.emod_lt_of_pos a (b := (n : Int)) (by omega)
  exact ⟨(a % (n : Int)).toNat, by omega, by omega⟩
theorem LookupMatchesReference : Opn.LookupMatchesReference := by
  intro l0 l1 l2 l3 l4 l5 l6 t a2 a3 a4 w0 w1 w2 w3 w4 w5 w6 wt v2 v3 v4
  have hb : ∀ k : Nat, 60 ≤ k → zoneinfolaw23_LookupMatchesReference.j0 (k + 1) t a2 a3 a4 true l0 l1 l2 l3 l4 l5 l6 = some true := fun k hk => by
    rw [zoneinfolaw23_LookupMatchesReference.j0, if_pos rfl]
    exact bnd (awake23 k hk) rfl
  refine ⟨3003, ?_⟩
  unfold zoneinfolaw23_LookupMatchesReference.f
  refine bnd (awake23 3003 (by omega)) ?_
  rw [if_pos rfl]
  obtain ⟨v, hv, hg⟩ := valid_f (b := ⟨l0, l1, l2, l3, l4, l5, l6⟩) (I64s.of w0.2) (WfS.of w4.2) (WfT.of w2.2) (Byt.of w1.2) 3003 (by omega)
  refine bnd hv ?_
  cases v with
  | false => exact hb 3002 (by omega)
  | true =>
    have g : Fine ⟨l0, l1, l2, l3, l4, l5, l6⟩ := { hg rfl with wt := WfT.of w2.2, wc := Byt.of w3.2, wi := Byt.of w1.2 }
    have hl : l0.length ≤ 200 := g.times
    have hn : 0 < l2.length := g.some_
    obtain ⟨r, hr, he⟩ := rank_f l0 g.asc (by omega) t 3002 (by omega)
    obtain ⟨q, hq, hql⟩ := mod_nat (wf_u8 v2) (n := l0.length + 1) (by omega)
    obtain ⟨x, hx, hxl⟩ := mod_nat (wf_u8 v3) (n := l2.length) hn
    obtain ⟨y, hy, hyl⟩ := mod_nat (wf_u8 v4) (n := l2.length) hn
    have hne : ¬ ((l0.length + 1 : Nat) : Int) = 0 := by clear hq hx hy; omega
    have hne2 : ¬ (l2.length : Int) = 0 := by clear hq hx hy; omega
    have e1 : wrap64 ((l0.length : Int) + 1) = ((l0.length + 1 : Nat) : Int) := by rw [w64 (by omega) (by omega)]; omega
    rw [Bool.not_true, zoneinfolaw23_LookupMatchesReference.j0, if_neg (by decide), e1, if_neg hne, if_neg hne2, hq, hx, hy]
    clear hq hx hy e1 hne hne2
    refine bnd he ?_
    refine bnd (rrank_f (by omega) hr 3002 (by omega)) ?_
    rw [if_pos rfl]
    refine bnd (state_f g (r := q) (by show q ≤ l0.length; omega)) ?_
    refine bnd (rstate_f g (r := q) (by show q ≤ l0.length; omega) 3002 (by omega)) ?_
    rw [if_pos (by simp)]
    refine bnd (tr_f g hxl) ?_
    refine bnd (rtr_f g hxl 3002 (by omega)) ?_
    rw [if_pos (by simp)]
    refine bnd (same_f g hxl hyl) ?_
    refine bnd (rsame_f g hxl hyl 3002 (by omega)) ?_
    simp
end Go.Proofs.Ytfminjencigfeaa.Pure
