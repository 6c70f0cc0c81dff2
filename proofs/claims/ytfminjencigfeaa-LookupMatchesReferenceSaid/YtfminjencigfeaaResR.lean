/- The results of a type in a valid block: the reference's. -/
import Derived.Test.YtfminjencigfeaaWWords
import Derived.Test.YtfminjencigfeaaWMore
import Derived.Test.YtfminjencigfeaaOwn
import Derived.Test.YtfminjencigfeaaGx12
import Derived.Test.YtfminjencigfeaaGx13
import Derived.Test.YtfminjencigfeaaBase
import Derived.Test.YtfminjencigfeaaLook
import Derived.Test.YtfminjencigfeaaOpn
import Derived.Test.YtfminjencigfeaaBlk
import Derived.Test.YtfminjencigfeaaRes
set_option linter.unusedVariables false
set_option linter.unusedSimpArgs false
namespace Go.Proofs.Ytfminjencigfeaa.Pure
open Go.RowKit Go.Proofs.Ytfminjencigfeaa.G Go.Proofs.YtfminjencigfeaaW.PrintWords Go.Proofs.YtfminjencigfeaaW.PrintLast Go.Proofs.YtfminjencigfeaaW.PrintMore

variable {b : Opn.S28}
theorem rtr_f (g : Fine b) {i : Nat} (hi : i < b.f2.length) (k : Nat) (hk : 700 < k) : zoneinforef23_TypeResult.f k b.f0 b.f1 b.f2 b.f3 b.f4 b.f5 b.f6 (i : Int) = some (shown b i) := by
  unfold zoneinforef23_TypeResult.f
  rw [rtr20_f g hi k hk, Option.bind_some, if_pos (by omega), if_pos (by omega), show rd_T42 b.f2 (i : Int) = ty b i from rfl]
  show (zoneinforef16_Placeholder.f (ty b i).f0 (ty b i).f1 (ty b i).f2 (nmT b i)).bind _ = _
  rw [rplc_f g hi, Option.bind_some]
  unfold shown
  split <;> rfl
theorem rsame_f (g : Fine b) {i j : Nat} (hi : i < b.f2.length) (hj : j < b.f2.length) (k : Nat) (hk : 700 < k) : zoneinforef23_Same.f k b.f0 b.f1 b.f2 b.f3 b.f4 b.f5 b.f6 (i : Int) (j : Int) = some (sm b i j) := by
  unfold zoneinforef23_Same.f
  rw [rtr20_f g hi k hk, Option.bind_some, rtr20_f g hj k hk, Option.bind_some]
  show some (true == true && sm b i j) = _
  rw [show (true == true) = true from rfl, Bool.true_and]
theorem rstate_f (g : Fine b) {r : Nat} (hr : r ≤ b.f0.length) (k : Nat) (hk : 700 < k) : zoneinforef23_State.f k b.f0 b.f1 b.f2 b.f3 b.f4 b.f5 b.f6 (r : Int) = some (shown b (eff b r)) := by
  obtain ⟨h1, h2⟩ := eff_lt g hr
  have h3 := g.same
  have h5 := g.times
  unfold zoneinforef23_State.f
  by_cases h0 : r = 0
  · subst h0
    rw [if_neg (by omega)]
    have := rtr_f g (i := 0) g.some_ k hk
    rw [show (0 : Int) = ((0 : Nat) : Int) from rfl, this, Option.bind_some]
    rfl
  · obtain ⟨h4, h6⟩ := h2 h0
    have e1 : wrap64 ((r : Int) - 1) = ((r - 1 : Nat) : Int) := by rw [w64 (by omega) (by omega)]; omega
    rw [if_pos (by omega), e1, if_pos (by omega), if_pos (by omega), h6, ← h4, rtr_f g h1 k hk, Option.bind_some]
theorem rrank_loop (l : List Int) (hl : l.length ≤ 1000) (t : Int) (r : Nat) (hr : Rk l t r) : ∀ (d i k : Nat), i + d = l.length → d < k →
    zoneinforef23_Rank.l0 k l t ((min i r : Nat) : Int) i = some (r : Int) := by
  intro d
  induction d with
  | zero =>
    intro i k hi hk
    obtain ⟨k, rfl⟩ : ∃ j, k = j + 1 := ⟨k - 1, by omega⟩
    have := hr.1
    rw [zoneinforef23_Rank.l0, if_neg (by omega), show min i r = r by omega]
  | succ d ih =>
    intro i k hi hk
    obtain ⟨k, rfl⟩ : ∃ j, k = j + 1 := ⟨k - 1, by omega⟩
    have := hr.1
    rw [zoneinforef23_Rank.l0, if_pos (by omega), if_pos (by omega), w64 (x := (i : Int) + 1) (by omega) (by omega), show (i : Int) + 1 = ((i + 1 : Nat) : Int) by omega]
    rcases Nat.lt_or_ge i r with h | h
    · rw [if_pos (hr.2.1 i h), w64 (by omega) (by omega), show ((min i r : Nat) : Int) + 1 = ((min (i + 1) r : Nat) : Int) by omega]
      exact ih (i + 1) k (by omega) (by omega)
    · rw [if_neg (by have := hr.2.2 i h (by omega); omega), show min i r = min (i + 1) r by omega]
      exact ih (i + 1) k (by omega) (by omega)
theorem rrank_f {l : List Int} (hl : l.length ≤ 1000) {t : Int} {r : Nat} (hr : Rk l t r) (k : Nat) (hk : l.length < k) : zoneinforef23_Rank.f k l t = some (r : Int) := by
  unfold zoneinforef23_Rank.f
  have := rrank_loop l hl t r hr l.length 0 k (by omega) hk
  rwa [show min 0 r = 0 by omega] at this
end Go.Proofs.Ytfminjencigfeaa.Pure
