/- The state at a time: the plain law behind the walk. No condition. -/
import Derived.Test.YtfminjencigfeaaWWords
import Derived.Test.YtfminjencigfeaaWMore
import Derived.Test.YtfminjencigfeaaOwn
import Derived.Test.YtfminjencigfeaaGx15
import Derived.Test.YtfminjencigfeaaGx16
import Derived.Test.YtfminjencigfeaaBase
import Derived.Test.YtfminjencigfeaaLook
import Derived.Test.YtfminjencigfeaaOpn
import Derived.Test.YtfminjencigfeaaBlk
import Derived.Test.YtfminjencigfeaaRes
import Derived.Test.YtfminjencigfeaaSayLookupState
set_option linter.unusedVariables false
set_option linter.unusedSimpArgs false
namespace Go.Proofs.Ytfminjencigfeaa.Pure
open Go.RowKit Go.Proofs.Ytfminjencigfeaa.G Go.Proofs.YtfminjencigfeaaW.PrintWords Go.Proofs.YtfminjencigfeaaW.PrintLast Go.Proofs.YtfminjencigfeaaW.PrintMore

theorem ineff_loop {b : Opn.S28} (g : Fine b) (t : Int) (r : Nat) (hr : Rk b.f0 t r) : ∀ (d i k : Nat) (cur : Int), i + d = b.f0.length → d < k →
    zoneinforef22_InEffect.l0 k t cur i b.f0 b.f1 b.f2 b.f3 b.f4 b.f5 b.f6 = some (if i < r then rd b.f1 ((r - 1 : Nat) : Int) else cur) := by
  have hs := g.same
  have ht := g.times
  have hrl := hr.1
  intro d
  induction d with
  | zero =>
    intro i k cur hi hk
    obtain ⟨k, rfl⟩ : ∃ j, k = j + 1 := ⟨k - 1, by omega⟩
    rw [zoneinforef22_InEffect.l0, if_neg (by omega), if_neg (by omega)]
  | succ d ih =>
    intro i k cur hi hk
    obtain ⟨k, rfl⟩ : ∃ j, k = j + 1 := ⟨k - 1, by omega⟩
    rw [zoneinforef22_InEffect.l0, if_pos (by omega), if_pos (by omega), w64 (x := (i : Int) + 1) (by omega) (by omega), show (i : Int) + 1 = ((i + 1 : Nat) : Int) by omega]
    rcases Nat.lt_or_ge i r with h | h
    · have hb := g.wi.rd (i : Int)
      rw [if_pos (hr.2.1 i h), if_pos (by omega), w64 (x := rd b.f1 (i : Int)) (by omega) (by omega), ih (i + 1) k _ (by omega) (by omega), if_pos h]
      by_cases h2 : i + 1 < r
      · rw [if_pos h2]
      · rw [if_neg h2, show r - 1 = i by omega]
    · rw [if_neg (by have := hr.2.2 i h (by omega); omega), ih (i + 1) k cur (by omega) (by omega), if_neg (by omega), if_neg (by omega)]
theorem ineff_f {b : Opn.S28} (g : Fine b) (t : Int) (r : Nat) (hr : Rk b.f0 t r) (k : Nat) (hk : b.f0.length < k) : zoneinforef22_InEffect.f k b.f0 b.f1 b.f2 b.f3 b.f4 b.f5 b.f6 t = some ((eff b r : Nat) : Int) := by
  unfold zoneinforef22_InEffect.f
  have := ineff_loop g t r hr b.f0.length 0 k 0 (by omega) hk
  rw [show ((0 : Nat) : Int) = 0 from rfl] at this
  rw [this]
  obtain ⟨h1, h2⟩ := eff_lt g hr.1
  by_cases h0 : r = 0
  · subst h0; rfl
  · rw [if_pos (by omega), (h2 h0).1]
theorem j2_f {b : Opn.S28} (g : Fine b) {i : Nat} (hi : i < b.f2.length) (k : Nat) :
    zoneinfolaw23_LookupState.j2 (k + 1) (i : Int) (plc b i) b.f0 b.f1 b.f2 b.f3 b.f4 b.f5 b.f6 (shown b i).1 (shown b i).2.1 (shown b i).2.2.1 (shown b i).2.2.2 (res b i).1 (res b i).2.1 (res b i).2.2.1 (res b i).2.2.2 = some true := by
  rw [zoneinfolaw23_LookupState.j2, tr_f g hi, Option.bind_some, if_pos (by simp)]
  by_cases hp : plc b i = true
  · have hs : shown b i = (false, 0, false, (⟨#[]⟩ : ByteArray)) := by unfold shown; rw [if_pos hp]
    rw [hs, hp, if_pos (by decide), if_pos rfl, if_pos (by decide +kernel)]
  · have hp' : plc b i = false := by simpa using hp
    have hs : shown b i = res b i := by unfold shown; rw [if_neg hp]
    rw [hs, hp', if_pos (by rfl), if_neg (by decide)]
    simp
theorem LookupState : Opn.LookupState := by
  intro l0 l1 l2 l3 l4 l5 l6 t w0 w1 w2 w3 w4 w5 w6 wt
  have hb : ∀ k : Nat, 60 ≤ k → zoneinfolaw23_LookupState.j0 (k + 1) t true l0 l1 l2 l3 l4 l5 l6 = some true := fun k hk => by
    rw [zoneinfolaw23_LookupState.j0, if_pos rfl]
    exact bnd (awake23 k hk) rfl
  refine ⟨3003, ?_⟩
  unfold zoneinfolaw23_LookupState.f
  refine bnd (awake23 3003 (by omega)) ?_
  rw [if_pos rfl]
  obtain ⟨v, hv, hg⟩ := valid_f (b := ⟨l0, l1, l2, l3, l4, l5, l6⟩) (I64s.of w0.2) (WfS.of w4.2) (WfT.of w2.2) (Byt.of w1.2) 3003 (by omega)
  refine bnd hv ?_
  cases v with
  | false => exact hb 3002 (by omega)
  | true =>
    have g : Fine ⟨l0, l1, l2, l3, l4, l5, l6⟩ := { hg rfl with wt := WfT.of w2.2, wc := Byt.of w3.2, wi := Byt.of w1.2 }
    have hl := g.times
    obtain ⟨r, hr, he⟩ := rank_f l0 g.asc (by have : l0.length ≤ 200 := hl; omega) t 3002 (by have : l0.length ≤ 200 := hl; omega)
    rw [Bool.not_true, zoneinfolaw23_LookupState.j0, if_neg (by decide)]
    refine bnd he ?_
    rw [if_neg (by omega), show decide ((r : Int) > (l0.length : Int)) = false by (have : r ≤ l0.length := hr.1; simp; omega), zoneinfolaw23_LookupState.j1, if_neg (by decide)]
    refine bnd (ineff_f g t r hr 3001 (by have : l0.length ≤ 200 := hl; show l0.length < 3001; omega)) ?_
    refine bnd (state_f g hr.1) ?_
    obtain ⟨h1, _⟩ := eff_lt g hr.1
    refine bnd (rtr20_f g h1 3001 (by omega)) ?_
    have key := j2_f g h1 3000
    have hx : plc ⟨l0, l1, l2, l3, l4, l5, l6⟩ (eff ⟨l0, l1, l2, l3, l4, l5, l6⟩ r) = if (res ⟨l0, l1, l2, l3, l4, l5, l6⟩ (eff ⟨l0, l1, l2, l3, l4, l5, l6⟩ r)).2.1 = 0 then (if (res ⟨l0, l1, l2, l3, l4, l5, l6⟩ (eff ⟨l0, l1, l2, l3, l4, l5, l6⟩ r)).2.2.1 = true then false else ((res ⟨l0, l1, l2, l3, l4, l5, l6⟩ (eff ⟨l0, l1, l2, l3, l4, l5, l6⟩ r)).2.2.2.toList == ([45, 48, 48] : List UInt8))) else false := rfl
    rw [hx] at key
    by_cases c1 : (res ⟨l0, l1, l2, l3, l4, l5, l6⟩ (eff ⟨l0, l1, l2, l3, l4, l5, l6⟩ r)).2.1 = 0
    · rw [if_pos c1] at key ⊢
      by_cases c2 : (res ⟨l0, l1, l2, l3, l4, l5, l6⟩ (eff ⟨l0, l1, l2, l3, l4, l5, l6⟩ r)).2.2.1 = true
      · rw [if_pos c2] at key ⊢; exact key
      · rw [if_neg c2] at key ⊢; exact key
    · rw [if_neg c1] at key ⊢; exact key
end Go.Proofs.Ytfminjencigfeaa.Pure
