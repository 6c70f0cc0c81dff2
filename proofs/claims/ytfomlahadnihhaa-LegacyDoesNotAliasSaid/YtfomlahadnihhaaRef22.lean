/- What the reference's functions of legacy answer: the same. -/
import Derived.Test.YtfomlahadnihhaaWWords
import Derived.Test.YtfomlahadnihhaaWMore
import Derived.Test.YtfomlahadnihhaaOwn
import Derived.Test.YtfomlahadnihhaaGx14
import Derived.Test.YtfomlahadnihhaaGx15
import Derived.Test.YtfomlahadnihhaaBase
import Derived.Test.YtfomlahadnihhaaVb22
import Derived.Test.YtfomlahadnihhaaLeg22
set_option linter.unusedVariables false
set_option linter.unusedSimpArgs false
namespace Go.Proofs.Ytfomlahadnihhaa.Pure
open Go.RowKit Go.Proofs.Ytfomlahadnihhaa.G Go.Proofs.YtfomlahadnihhaaW.PrintWords Go.Proofs.YtfomlahadnihhaaW.PrintLast Go.Proofs.YtfomlahadnihhaaW.PrintMore
theorem oth_nat (k j : Nat) : oth (k : Int) (j : Int) = ((othN k j : Nat) : Int) := by
  unfold oth othN
  repeat' split
  all_goals omega
def curAt (T I : List Int) (t : Int) (i : Nat) : Int := if min i (aft T t) = 0 then 0 else rd I ((min i (aft T t) - 1 : Nat) : Int)
theorem rin_l {b : S28} (h : ascB b.f0 = true) (hl : b.f0.length ≤ 1000) (hs : b.f0.length ≤ b.f1.length) (hI : Byt b.f1) (t : Int) : ∀ (d i k : Nat), i + d = b.f0.length → d < k → zoneinforef22_InEffect.l0 k t (curAt b.f0 b.f1 t i) (i : Int) b.f0 b.f1 b.f2 b.f3 b.f4 b.f5 b.f6 = some (curAt b.f0 b.f1 t b.f0.length) := by
  obtain ⟨a1, a2, a3⟩ := aft_spec t b.f0 h
  intro d
  induction d with
  | zero =>
    intro i k hi hk
    obtain ⟨k, rfl⟩ : ∃ m, k = m + 1 := ⟨k - 1, by omega⟩
    rw [zoneinforef22_InEffect.l0, if_neg (by omega), show i = b.f0.length by omega]
  | succ d ih =>
    intro i k hi hk
    obtain ⟨k, rfl⟩ : ∃ m, k = m + 1 := ⟨k - 1, by omega⟩
    have hn := ih (i + 1) k (by omega) (by omega)
    rw [zoneinforef22_InEffect.l0, if_pos (by omega), if_pos (by omega), next i (by omega)]
    by_cases hc : i < aft b.f0 t
    · have hb := hI.rd (i : Int)
      rw [if_pos (a2 i hc), if_pos (by omega), w64 (x := rd b.f1 (i : Int)) (by omega) (by omega)]
      have e : curAt b.f0 b.f1 t (i + 1) = rd b.f1 (i : Int) := by
        unfold curAt
        rw [Nat.min_eq_left (by omega), if_neg (by omega), Nat.add_sub_cancel]
      rw [e] at hn
      exact hn
    · have := a3 i (by omega) (by omega)
      rw [if_neg (by omega)]
      have e : curAt b.f0 b.f1 t (i + 1) = curAt b.f0 b.f1 t i := by
        unfold curAt
        rw [Nat.min_eq_right (by omega), Nat.min_eq_right (by omega)]
      rw [e] at hn
      exact hn
theorem rineff_f {b : S28} (h : ascB b.f0 = true) (hl : b.f0.length ≤ 1000) (hs : b.f0.length ≤ b.f1.length) (hI : Byt b.f1) (t : Int) (k : Nat) (hk : b.f0.length < k) : zoneinforef22_InEffect.f k b.f0 b.f1 b.f2 b.f3 b.f4 b.f5 b.f6 t = some (ieff b.f0 b.f1 t) := by
  obtain ⟨a1, _, _⟩ := aft_spec t b.f0 h
  have := rin_l h hl hs hI t b.f0.length 0 k (by omega) hk
  unfold zoneinforef22_InEffect.f
  have e0 : curAt b.f0 b.f1 t 0 = 0 := by unfold curAt; rw [Nat.zero_min, if_pos rfl]
  have e1 : curAt b.f0 b.f1 t b.f0.length = ieff b.f0 b.f1 t := by unfold curAt ieff; rw [Nat.min_eq_right a1]
  rw [e0, e1] at this
  exact this
theorem take_drop_next (l : List Int) (p j : Nat) (hp : p ≤ j) (hj : j < l.length) : (l.take (j + 1)).drop p = (l.take j).drop p ++ [rd l (j : Int)] := by
  rw [List.take_add_one, List.getElem?_eq_getElem hj, List.drop_append_of_le_length (by rw [List.length_take]; omega), rd_nat l j hj]
  rfl
theorem take_drop_none (l : List Int) (p j : Nat) (hp : j ≤ p) : (l.take j).drop p = [] := List.drop_eq_nil_of_le (by rw [List.length_take]; omega)
theorem vsel_eq {b : S28} (hr : Rises b) (k : Int) : ∀ j : Nat, j ≤ b.f0.length → vsel b.f0 b.f1 k j = ((b.f0.take (min j (vq b))).drop (vp b), ((b.f1.take (min j (vq b))).drop (vp b)).map (fun i => oth k (wrap64 i) % 256)) := by
  obtain ⟨p1, p2⟩ := vpq hr
  obtain ⟨a1, a2, a3⟩ := aft_spec (-2147483649) b.f0 hr.asc
  obtain ⟨c1, c2, c3⟩ := aft_spec 2147483647 b.f0 hr.asc
  have hl := hr.len
  intro j
  induction j with
  | zero => intro _; rw [Nat.zero_min, take_drop_none _ _ 0 (by omega), take_drop_none _ _ 0 (by omega)]; rfl
  | succ j ih =>
    intro hj
    have ih := ih (by omega)
    rw [vsel]
    by_cases h1 : j < vp b
    · have := a2 j h1
      rw [if_neg (by omega), ih, Nat.min_eq_left (by omega), Nat.min_eq_left (by omega), take_drop_none _ _ j (by omega), take_drop_none _ _ j (by omega), take_drop_none _ _ (j + 1) (by omega), take_drop_none _ _ (j + 1) (by omega)]
    · have g1 := a3 j (by show vp b ≤ j; omega) (by omega)
      by_cases h2 : j < vq b
      · have g2 := c2 j h2
        rw [if_pos (by omega), ih, Nat.min_eq_left (by omega), Nat.min_eq_left (by omega), take_drop_next _ _ j (by omega) (by omega), take_drop_next _ _ j (by omega) (by omega), List.map_append]
        rfl
      · have g2 := c3 j (by show vq b ≤ j; omega) (by omega)
        rw [if_neg (by omega), ih, Nat.min_eq_right (by omega), Nat.min_eq_right (by omega)]
theorem vtyp_eq (l : List S38) (k : Nat) (hk : k < l.length) : vtyp l (k : Int) l.length = sw z38 l k := by
  refine List.ext_getElem (by rw [vtyp_len, sw_len]) (fun j h1 h2 => ?_)
  rw [vtyp_len] at h1
  have e : vtyp l (k : Int) l.length = (List.range l.length).map (fun j : Nat => rd_T38 l (oth (k : Int) (j : Int))) := rfl
  have := sw_get z38 l k j hk h1
  rw [List.getD_eq_getElem?_getD, List.getElem?_eq_getElem h2] at this
  simp only [e, List.getElem_map, List.getElem_range, oth_nat]
  unfold rd_T38
  rw [Int.toNat_natCast]
  exact this.symm
theorem vind_eq (l : List Bool) (k n : Nat) (hk : k < n) (h : l.length = 0 ∨ l.length = n) : vind l (k : Int) n = sw false l k := by
  rcases h with h | h
  · rw [vind_nil l _ n h, List.length_eq_zero_iff.1 h]
    rfl
  · subst h
    have hne : ¬ l.length = 0 := by omega
    have hvl : (vind l (k : Int) l.length).length = l.length := by unfold vind; rw [if_neg hne]; simp
    refine List.ext_getElem (by rw [hvl, sw_len]) (fun j h1 h2 => ?_)
    have h1' : j < l.length := by rw [hvl] at h1; exact h1
    have e : vind l (k : Int) l.length = (List.range l.length).map (fun j : Nat => rdOf false l (oth (k : Int) (j : Int))) := by unfold vind; rw [if_neg hne]
    have := sw_get false l k j hk h1'
    rw [List.getD_eq_getElem?_getD, List.getElem?_eq_getElem h2] at this
    simp only [e, List.getElem_map, List.getElem_range, oth_nat]
    unfold rdOf
    rw [Int.toNat_natCast]
    exact this.symm
theorem rview_f {b : S28} (hS : Sm b) (hW : Wd b) {ver s : Int} (h : BOk b ver s) : zoneinforef22_View.f b.f0 b.f1 b.f2 b.f3 b.f4 b.f5 b.f6 = some ((vwOf b).f0, (vwOf b).f1, (vwOf b).f2, (vwOf b).f3, (vwOf b).f4, (vwOf b).f5, (vwOf b).f6) := by
  have hr := Rises.of hW h
  have h0 := hS.l0
  have h2 := hS.l2
  have h3 := hS.l3
  have h4 := hS.l4
  have hl := h.same
  have h5 := h.std
  have h6 := h.ut
  obtain ⟨p1, p2⟩ := vpq hr
  obtain ⟨k1, k2⟩ := vk_eq hr
  have hk := vk_lt hr h.some_ h.index
  unfold zoneinforef22_View.f
  refine bnd (rineff_f hr.asc (by omega) (by omega) hr.byt _ 1000 (by omega)) ?_
  rw [k1, if_pos ⟨by omega, by omega, by omega, by omega, by omega, by omega, by omega, by omega, by omega⟩]
  rw [vsel_eq hr _ _ (Nat.le_refl _), Nat.min_eq_right p2, vtyp_eq _ _ hk, vind_eq _ _ _ hk h5, vind_eq _ _ _ hk h6]
  have em : ((b.f1.take (vq b)).drop (vp b)).map (fun i => oth (vk b : Int) (wrap64 i) % 256) = ((b.f1.take (vq b)).drop (vp b)).map (rnm (vk b : Int)) := by
    refine List.map_congr_left fun i hi => ?_
    have g := ((hr.byt.take _).drop _) i hi
    obtain ⟨y, rfl⟩ := Int.eq_ofNat_of_zero_le g.1
    have hy : y < 256 := by omega
    have ho : othN (vk b) y < 256 := othN_lt k2 hy
    rw [w64 (x := ((y : Nat) : Int)) (by omega) (by omega), oth_nat, rnm_nat _ _ k2 hy]
    clear g hi hl h5 h6 p1 p2 k1 hk h0 h2 h3 h4
    omega
  have ef : vlps b.f4 = b.f4.filter (fun x => decide (x.f0 < 2147483648)) := by
    unfold vlps
    congr 1
    funext x
    rw [Bool.eq_iff_iff, decide_eq_true_iff, decide_eq_true_iff]
    omega
  rw [em, ef]
  rfl
end Go.Proofs.Ytfomlahadnihhaa.Pure
