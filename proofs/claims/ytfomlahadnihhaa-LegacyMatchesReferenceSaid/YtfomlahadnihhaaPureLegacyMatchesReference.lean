/- The plain law behind the walk of LegacyMatchesReference. No condition. -/
import Derived.Test.YtfomlahadnihhaaWWords
import Derived.Test.YtfomlahadnihhaaWMore
import Derived.Test.YtfomlahadnihhaaOwn
import Derived.Test.YtfomlahadnihhaaGx16
import Derived.Test.YtfomlahadnihhaaGx7
import Derived.Test.YtfomlahadnihhaaGx8
import Derived.Test.YtfomlahadnihhaaGx9
import Derived.Test.YtfomlahadnihhaaBase
import Derived.Test.YtfomlahadnihhaaVb22
import Derived.Test.YtfomlahadnihhaaLeg22
import Derived.Test.YtfomlahadnihhaaEq22
import Derived.Test.YtfomlahadnihhaaRef22
import Derived.Test.YtfomlahadnihhaaSayLegacyMatchesReference
set_option linter.unusedVariables false
set_option linter.unusedSimpArgs false
namespace Go.Proofs.Ytfomlahadnihhaa.Pure
open Go.RowKit Go.Proofs.Ytfomlahadnihhaa.G Go.Proofs.YtfomlahadnihhaaW.PrintWords Go.Proofs.YtfomlahadnihhaaW.PrintLast Go.Proofs.YtfomlahadnihhaaW.PrintMore
theorem risSlim_f {a : S28} (hS : Sm a) (k : Nat) (hk : 2000 < k) : Tot (zoneinforef22_IsSlim.f k a.f0 a.f1 a.f2 a.f3 a.f4 a.f5 a.f6) (fun v => v = true ↔ a = slim) := by
  unfold zoneinforef22_IsSlim.f zoneinforef22_Slim.f
  rw [Option.bind_some]
  exact Tot.bind (equal_f (b := slim) hS k hk) fun v hv => Tot.some hv
theorem LegacyMatchesReference : Opn.LegacyMatchesReference := by
  intro z i ty c s st ut t w0 w1 w2 w3 w4 w5 w6 w7
  have hW : Wd ⟨z, i, ty, c, s, st, ut⟩ := ⟨I64s.of w0.2, Byt.of w1.2, WfT.of w2.2, WfS.of w4.2⟩
  generalize hb : (⟨z, i, ty, c, s, st, ut⟩ : S28) = b at hW
  refine ⟨5000, ?_⟩
  generalize hK : (5000 : Nat) = K
  obtain ⟨k, rfl⟩ : ∃ m, K = m + 3 := ⟨K - 3, by omega⟩
  have goal : ∀ b : S28, Wd b → zoneinfolaw22_LegacyMatchesReference.f (k + 3) b.f0 b.f1 b.f2 b.f3 b.f4 b.f5 b.f6 t = some true := by
    clear hb hW
    intro b hW
    unfold zoneinfolaw22_LegacyMatchesReference.f zoneinfolaw22_awake.f
    rw [Option.bind_some, if_pos rfl]
    obtain ⟨v, e, hv⟩ := few_f b
    refine bnd e ?_
    cases v with
    | false =>
      rw [if_neg (by decide)]
      simp only [zoneinfolaw22_LegacyMatchesReference.j0]
      rw [if_pos trivial]
      unfold zoneinfolaw22_awake.f
      rw [Option.bind_some, if_pos rfl]
      exact bnd e rfl
    | true =>
      have hS := hv.1 rfl
      rw [if_pos rfl]
      obtain ⟨v1, e1, hv1⟩ := isSlim_f hS (k + 3) (by omega)
      obtain ⟨v2, e2, hv2⟩ := risSlim_f hS (k + 3) (by omega)
      refine bnd e1 ?_
      refine bnd e2 ?_
      have ev : v1 = v2 := by rw [Bool.eq_iff_iff, hv1, hv2]
      rw [ev, if_neg (by simp)]
      refine bnd slim_f ?_
      refine bnd ((risSlim_f slim_sm (k + 3) (by omega)).sure rfl) ?_
      simp only [zoneinfolaw22_LegacyMatchesReference.j0]
      rw [if_neg (by decide)]
      obtain ⟨v3, e3, hv3⟩ := valid_f hW (k + 2) (by omega)
      refine bnd e3 ?_
      cases v3 with
      | false => rw [if_neg (by decide)]
      | true =>
        rw [if_pos rfl]
        obtain ⟨_, hB⟩ := hv3 rfl
        have hr := Rises.of hW hB
        have h0 := hS.l0
        have hl := hB.same
        refine bnd (ineff_f b hr.asc (by omega) (by omega) hr.byt t) ?_
        refine bnd (rineff_f hr.asc (by omega) (by omega) hr.byt t (k + 2) (by omega)) ?_
        rw [if_pos rfl]
        refine bnd (view_f hS hr) ?_
        refine bnd (rview_f hS hW hB) ?_
        exact bnd ((equal_f (b := vwOf b) hS.view (k + 2) (by omega)).sure rfl) rfl
  have := goal b hW
  subst hb
  exact this
end Go.Proofs.Ytfomlahadnihhaa.Pure
