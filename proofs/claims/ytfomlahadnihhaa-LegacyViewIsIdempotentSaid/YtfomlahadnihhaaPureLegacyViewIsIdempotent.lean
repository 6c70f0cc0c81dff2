/- The plain law behind the walk of LegacyViewIsIdempotent. No condition. -/
import Derived.Test.YtfomlahadnihhaaWWords
import Derived.Test.YtfomlahadnihhaaWMore
import Derived.Test.YtfomlahadnihhaaOwn
import Derived.Test.YtfomlahadnihhaaGx18
import Derived.Test.YtfomlahadnihhaaGx3
import Derived.Test.YtfomlahadnihhaaGx6
import Derived.Test.YtfomlahadnihhaaGx7
import Derived.Test.YtfomlahadnihhaaBase
import Derived.Test.YtfomlahadnihhaaVb22
import Derived.Test.YtfomlahadnihhaaLeg22
import Derived.Test.YtfomlahadnihhaaEq22
import Derived.Test.YtfomlahadnihhaaSayLegacyViewIsIdempotent
set_option linter.unusedVariables false
set_option linter.unusedSimpArgs false
namespace Go.Proofs.Ytfomlahadnihhaa.Pure
open Go.RowKit Go.Proofs.Ytfomlahadnihhaa.G Go.Proofs.YtfomlahadnihhaaW.PrintWords Go.Proofs.YtfomlahadnihhaaW.PrintLast Go.Proofs.YtfomlahadnihhaaW.PrintMore
/-- The times and the leap seconds of a block fit four bytes. -/
structure Narrow (c : S28) : Prop where
  t : ∀ j : Nat, j < c.f0.length → -2147483648 ≤ rd c.f0 (j : Int) ∧ rd c.f0 (j : Int) < 2147483648
  l : ∀ x ∈ c.f4, x.f0 < 2147483648
theorem rnm_zero {l : List Int} (h : Byt l) : l.map (rnm ((0 : Nat) : Int)) = l := by
  have e : l.map (rnm ((0 : Nat) : Int)) = l.map id := List.map_congr_left fun x hx => by
    have g := h x hx
    obtain ⟨y, rfl⟩ := Int.eq_ofNat_of_zero_le g.1
    rw [rnm_nat 0 y (by omega) (by omega)]
    unfold othN
    repeat' split
    all_goals simp_all
  rw [e, List.map_id]
/-- The view of a narrow block is the block. -/
theorem view_id {c : S28} (hr : Rises c) (hn : Narrow c) : vwOf c = c := by
  have hl := hr.len
  have e1 : vp c = 0 := aft_eq _ c.f0 0 (Nat.zero_le _) (fun j hj => absurd hj (Nat.not_lt_zero j)) (fun j _ h => by have := hn.t j h; omega)
  have e2 : vq c = c.f0.length := aft_eq _ c.f0 c.f0.length (Nat.le_refl _) (fun j hj => by have := hn.t j hj; omega) (fun j h1 h2 => by omega)
  have e3 : vk c = 0 := by
    have g := (vk_eq hr).1
    unfold ieff at g
    rw [if_pos (show aft c.f0 (-2147483649) = 0 from e1)] at g
    omega
  have e4 : c.f4.filter (fun x => decide (x.f0 < 2147483648)) = c.f4 := List.filter_eq_self.2 fun x hx => decide_eq_true (hn.l x hx)
  have e5 : c.f1.take c.f0.length = c.f1 := List.take_of_length_le (by omega)
  unfold vwOf
  rw [e1, e2, e3, e4, e5, List.take_length, List.drop_zero, List.drop_zero, rnm_zero hr.byt, sw_zero, sw_zero, sw_zero]
/-- A view is narrow. -/
theorem view_narrow {b : S28} (hr : Rises b) : Narrow (vwOf b) := by
  obtain ⟨p1, p2⟩ := vpq hr
  obtain ⟨a1, a2, a3⟩ := aft_spec (-2147483649) b.f0 hr.asc
  obtain ⟨c1, c2, c3⟩ := aft_spec 2147483647 b.f0 hr.asc
  refine ⟨fun j hj => ?_, fun x hx => of_decide_eq_true (List.mem_filter.1 hx).2⟩
  have e0 : (vwOf b).f0 = (b.f0.take (vq b)).drop (vp b) := rfl
  rw [e0, cut_len p2] at hj
  rw [e0, rd_cut _ _ _ j p2 (by omega)]
  have g1 := a3 (vp b + j) (by show vp b ≤ _; omega) (by omega)
  have g2 := c2 (vp b + j) (by show _ < vq b; omega)
  omega
theorem slim_rises : Rises slim := ⟨rfl, rfl, fun x hx => by change x ∈ ([] : List Int) at hx; cases hx⟩
theorem slim_narrow : Narrow slim := ⟨fun j hj => absurd hj (Nat.not_lt_zero j), fun x hx => by change x ∈ ([] : List S42) at hx; cases hx⟩
theorem slim_end (k : Nat) (hk : 2000 < k) : ((legacy_Slim.f).bind fun s => ((legacy_View.f s.1 s.2.1 s.2.2.1 s.2.2.2.1 s.2.2.2.2.1 s.2.2.2.2.2.1 s.2.2.2.2.2.2).bind fun v => ((legacy_IsSlim.f k v.1 v.2.1 v.2.2.1 v.2.2.2.1 v.2.2.2.2.1 v.2.2.2.2.2.1 v.2.2.2.2.2.2).bind fun t => (some t)))) = some true := by
  refine bnd slim_f ?_
  refine bnd (view_f slim_sm slim_rises) ?_
  exact bnd ((isSlim_f slim_sm.view k hk).sure (view_id slim_rises slim_narrow)) rfl
variable {b : S28}
theorem vi_l1 (hS : Sm b) (h : Rises b) : ∀ (d i k : Nat) (g : Bool), i + d = b.f4.length → d + 2100 < k → (g = true → (∀ j : Nat, j < b.f0.length → -2147483648 ≤ rd b.f0 (j : Int) ∧ rd b.f0 (j : Int) < 2147483648) ∧ ∀ j : Nat, j < i → (rd_T42 b.f4 (j : Int)).f0 < 2147483648) →
    zoneinfolaw22_LegacyViewIsIdempotent.l1 k g (i : Int) b.f0 b.f1 b.f2 b.f3 b.f4 b.f5 b.f6 (vwOf b).f0 (vwOf b).f1 (vwOf b).f2 (vwOf b).f3 (vwOf b).f4 (vwOf b).f5 (vwOf b).f6 = some true := by
  have h4 := hS.l4
  intro d
  induction d with
  | zero =>
    intro i k g hi hk hg
    obtain ⟨k, rfl⟩ : ∃ m, k = m + 1 := ⟨k - 1, by omega⟩
    simp only [zoneinfolaw22_LegacyViewIsIdempotent.l1]
    rw [if_neg (by omega)]
    refine bnd (view_f hS.view h.view) ?_
    refine bnd ((equal_f (a := vwOf (vwOf b)) (b := vwOf b) hS.view.view k (by omega)).sure (view_id h.view (view_narrow h))) ?_
    rw [if_pos rfl]
    cases g with
    | false =>
      rw [if_neg (by decide)]
      exact slim_end k (by omega)
    | true =>
      rw [if_pos rfl]
      obtain ⟨g1, g2⟩ := hg rfl
      have hn : Narrow b := ⟨g1, fun x hx => by
        obtain ⟨j, hj, rfl⟩ := List.mem_iff_getElem.1 hx
        rw [← rd42_nat _ j hj]
        exact g2 j (by omega)⟩
      refine bnd ((equal_f (a := vwOf b) (b := b) hS.view k (by omega)).sure (view_id h hn)) ?_
      rw [if_pos rfl]
      exact slim_end k (by omega)
  | succ d ih =>
    intro i k g hi hk hg
    obtain ⟨k, rfl⟩ : ∃ m, k = m + 1 := ⟨k - 1, by omega⟩
    simp only [zoneinfolaw22_LegacyViewIsIdempotent.l1]
    rw [if_pos (by omega), next i (by omega)]
    cases g with
    | false => rw [if_neg (by decide)]; exact ih (i + 1) k false (by omega) (by omega) (fun e => absurd e (by decide))
    | true =>
      rw [if_pos rfl, if_pos (by omega)]
      obtain ⟨g1, g2⟩ := hg rfl
      refine ih (i + 1) k _ (by omega) (by omega) (fun e => ⟨g1, fun j hj => ?_⟩)
      rw [decide_eq_true_iff] at e
      rcases Nat.lt_or_ge j i with q | q
      · exact g2 j q
      · obtain rfl : j = i := by omega
        exact e
theorem vi_l0 (hS : Sm b) (h : Rises b) : ∀ (d i k : Nat) (g : Bool), i + d = b.f0.length → d + 2500 < k → (g = true → ∀ j : Nat, j < i → -2147483648 ≤ rd b.f0 (j : Int) ∧ rd b.f0 (j : Int) < 2147483648) →
    zoneinfolaw22_LegacyViewIsIdempotent.l0 k g (i : Int) b.f0 b.f1 b.f2 b.f3 b.f4 b.f5 b.f6 (vwOf b).f0 (vwOf b).f1 (vwOf b).f2 (vwOf b).f3 (vwOf b).f4 (vwOf b).f5 (vwOf b).f6 = some true := by
  have h0 := hS.l0
  have h4 := hS.l4
  intro d
  induction d with
  | zero =>
    intro i k g hi hk hg
    obtain ⟨k, rfl⟩ : ∃ m, k = m + 1 := ⟨k - 1, by omega⟩
    simp only [zoneinfolaw22_LegacyViewIsIdempotent.l0]
    rw [if_neg (by omega)]
    exact vi_l1 hS h b.f4.length 0 k g (Nat.zero_add _) (by omega) (fun e => ⟨fun j hj => hg e j (by omega), fun j hj => absurd hj (Nat.not_lt_zero j)⟩)
  | succ d ih =>
    intro i k g hi hk hg
    obtain ⟨k, rfl⟩ : ∃ m, k = m + 1 := ⟨k - 1, by omega⟩
    have no := ih (i + 1) k false (by omega) (by omega) (fun e => absurd e (by decide))
    simp only [zoneinfolaw22_LegacyViewIsIdempotent.l0]
    rw [if_pos (by omega), next i (by omega)]
    cases g with
    | false => rw [if_neg (by decide)]; exact no
    | true =>
      rw [if_pos rfl, if_pos (by omega)]
      by_cases hc : rd b.f0 (i : Int) ≥ -2147483648
      · rw [if_pos hc]
        refine ih (i + 1) k _ (by omega) (by omega) (fun e j hj => ?_)
        rw [decide_eq_true_iff] at e
        rcases Nat.lt_or_ge j i with q | q
        · exact hg rfl j q
        · obtain rfl : j = i := by omega
          exact ⟨hc, e⟩
      · rw [if_neg hc]; exact no
theorem LegacyViewIsIdempotent : Opn.LegacyViewIsIdempotent := by
  intro z i ty c s st ut w0 w1 w2 w3 w4 w5 w6
  have hW : Wd ⟨z, i, ty, c, s, st, ut⟩ := ⟨I64s.of w0.2, Byt.of w1.2, WfT.of w2.2, WfS.of w4.2⟩
  generalize hb : (⟨z, i, ty, c, s, st, ut⟩ : S28) = b at hW
  refine ⟨5000, ?_⟩
  generalize hK : (5000 : Nat) = K
  obtain ⟨k, rfl⟩ : ∃ m, K = m + 1 := ⟨K - 1, by omega⟩
  have goal : ∀ b : S28, Wd b → zoneinfolaw22_LegacyViewIsIdempotent.f (k + 1) b.f0 b.f1 b.f2 b.f3 b.f4 b.f5 b.f6 = some true := by
    clear hb hW
    intro b hW
    unfold zoneinfolaw22_LegacyViewIsIdempotent.f zoneinfolaw22_awake.f
    rw [Option.bind_some, if_pos rfl]
    obtain ⟨v, e, hv⟩ := valid_f hW (k + 1) (by omega)
    refine bnd e ?_
    simp only [zoneinfolaw22_LegacyViewIsIdempotent.j0]
    cases v with
    | false => rw [if_pos (by decide)]; rfl
    | true =>
      rw [if_neg (by decide)]
      obtain ⟨hS, hB⟩ := hv rfl
      have hr := Rises.of hW hB
      refine bnd (view_f hS hr) ?_
      exact vi_l0 hS hr b.f0.length 0 k true (Nat.zero_add _) (by have := hS.l0; omega) (fun _ j hj => absurd hj (Nat.not_lt_zero j))
  have := goal b hW
  subst hb
  exact this
end Go.Proofs.Ytfomlahadnihhaa.Pure
