/- A successful sum minus one operand is the other one; a successful product divided by a non-zero operand is the other one, without remainder; both are commutative; a success never exceeds the limit: the plain law behind the walk. No condition. -/
import Derived.Test.YtljompndopfflaaWWords
import Derived.Test.YtljompndopfflaaWMore
import Derived.Test.YtljompndopfflaaOwn
import Derived.Test.YtljompndopfflaaGx11
import Derived.Test.YtljompndopfflaaBase
import Derived.Test.YtljompndopfflaaSiz
import Derived.Test.YtljompndopfflaaL03
set_option linter.unusedVariables false
namespace Go.Proofs.Ytljompndopfflaa.Pure
open Go.RowKit Go.Proofs.Ytljompndopfflaa.G Go.Proofs.YtljompndopfflaaW.PrintWords Go.Proofs.YtljompndopfflaaW.PrintLast Go.Proofs.YtljompndopfflaaW.PrintMore

/-- The law's last test, of the product. -/
theorem exact_mul (a b lim : Int) (ha : U a) (hb : U b) (hl : U lim) :
    (if (capS lim (a * b)).2 = true then (if (capS lim (a * b)).1 ≤ lim then (if a = 0 then (if (capS lim (a * b)).1 = 0 then (some true) else (some false)) else (if (IntKind.u64.wrap (Int.tdiv (capS lim (a * b)).1 a)) = b then (if (Int.tmod (capS lim (a * b)).1 a) = 0 then (some true) else (some false)) else (some false))) else (some false)) else (if (capS lim (a * b)).1 = 0 then (if a = 0 then (some false) else (some (decide (b > (IntKind.u64.wrap (Int.tdiv lim a)))))) else (some false))) = some true := by
  have hp : 0 ≤ a * b := Int.mul_nonneg ha.1 hb.1
  unfold U at *
  by_cases h : a * b ≤ lim
  · rw [capS_pos h]
    dsimp only
    rw [if_pos rfl, if_pos h]
    by_cases h0 : a = 0
    · subst h0; rw [if_pos rfl, if_pos (Int.zero_mul _)]
    · rw [if_neg h0, Int.mul_tdiv_cancel_left b h0, u64w (by omega) (by omega), if_pos rfl, Int.mul_tmod_right, if_pos rfl]
  · rw [capS_neg h]
    dsimp only
    rw [if_neg (by decide), if_pos rfl]
    by_cases h0 : a = 0
    · subst h0; rw [Int.zero_mul] at h; omega
    · rw [if_neg h0, Int.tdiv_eq_ediv_of_nonneg hl.1]
      have hq : 0 ≤ lim / a := Int.ediv_nonneg hl.1 ha.1
      have hq2 : lim / a ≤ lim := Int.ediv_le_self _ hl.1
      rw [u64w hq (by omega), decide_eq_true ((div_lt_mul (by omega)).2 (by omega))]
theorem SizesExact : zoneinfolaw03_SizesExact.Pure := by
  intro a b lim ha hb hlim
  have wa := wf_u64 ha
  have wb := wf_u64 hb
  have wl := wf_u64 hlim
  refine ⟨100 + 1, ?_⟩
  unfold zoneinfolaw03_SizesExact.f
  refine bnd (awake03 _ (by omega)) ?_
  rw [if_pos rfl]
  refine bnd (add_f a b lim wa wb wl) ?_
  refine bnd (add_f b a lim wb wa wl) ?_
  refine bnd (mul_f a b lim wa wb wl) ?_
  refine bnd (mul_f b a lim wb wa wl) ?_
  rw [Int.add_comm b a, Int.mul_comm b a, if_pos rfl, if_neg (by simp), if_pos rfl, bne_self_eq_false]
  have em := exact_mul a b lim wa wb wl
  simp only [zoneinfolaw03_SizesExact.j0]
  rw [if_neg (by decide)]
  by_cases h : a + b ≤ lim
  · rw [capS_pos h]
    dsimp only
    rw [if_pos rfl, if_neg (by omega), if_neg (by omega), show a + b - a = b by omega, u64w wb.1 wb.2, if_pos rfl]
    exact em
  · rw [capS_neg h]
    dsimp only
    rw [if_neg (by decide), if_pos rfl]
    by_cases h2 : IntKind.u64.wrap (a + b) ≥ a
    · rw [if_pos h2, if_neg (by rw [u64_def] at h2 ⊢; omega)]; exact em
    · rw [if_neg h2]; exact em
end Go.Proofs.Ytljompndopfflaa.Pure
