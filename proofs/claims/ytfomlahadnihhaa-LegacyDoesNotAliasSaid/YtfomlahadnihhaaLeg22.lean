/- What the functions of legacy answer on a list of times that rises: the type in effect, the view. -/
import Derived.Test.YtfomlahadnihhaaWWords
import Derived.Test.YtfomlahadnihhaaWMore
import Derived.Test.YtfomlahadnihhaaOwn
import Derived.Test.YtfomlahadnihhaaGx3
import Derived.Test.YtfomlahadnihhaaGx4
import Derived.Test.YtfomlahadnihhaaGx5
import Derived.Test.YtfomlahadnihhaaGx6
import Derived.Test.YtfomlahadnihhaaBase
import Derived.Test.YtfomlahadnihhaaVb22
set_option linter.unusedVariables false
set_option linter.unusedSimpArgs false
namespace Go.Proofs.Ytfomlahadnihhaa.Pure
open Go.RowKit Go.Proofs.Ytfomlahadnihhaa.G Go.Proofs.YtfomlahadnihhaaW.PrintWords Go.Proofs.YtfomlahadnihhaaW.PrintLast Go.Proofs.YtfomlahadnihhaaW.PrintMore
theorem asc_tail {a : Int} {l : List Int} (h : ascB (a :: l) = true) : ascB l = true := by
  cases l with
  | nil => rfl
  | cons b r => unfold ascB at h; rw [Bool.and_eq_true] at h; exact h.2
theorem Asc.ascB : ∀ (l : List Int), Asc l → Go.Proofs.Ytfomlahadnihhaa.G.ascB l = true
  | [], _ => rfl
  | [a], _ => rfl
  | a :: b :: r, h => by
    unfold Go.Proofs.Ytfomlahadnihhaa.G.ascB
    rw [Bool.and_eq_true, decide_eq_true_iff]
    refine ⟨?_, Asc.ascB (b :: r) (fun j hj => ?_)⟩
    · have := h 0 (by simp)
      rwa [rd_succ, rd_zero, rd_zero] at this
    · have := h (j + 1) (by simpa using hj)
      rwa [rd_succ, rd_succ] at this
theorem asc_of {l : List Int} (h : Go.Proofs.Ytfomlahadnihhaa.G.ascB l = true) : Asc l := fun j hj => asc_step l h j hj
theorem aft_spec (t : Int) : ∀ (l : List Int), ascB l = true → aft l t ≤ l.length ∧ (∀ j : Nat, j < aft l t → rd l (j : Int) ≤ t) ∧ ∀ j : Nat, aft l t ≤ j → j < l.length → t < rd l (j : Int)
  | [], _ => ⟨Nat.le_refl 0, fun j hj => absurd hj (Nat.not_lt_zero j), fun j _ hj => absurd hj (Nat.not_lt_zero j)⟩
  | a :: l, h => by
    by_cases ha : a ≤ t
    · obtain ⟨h1, h2, h3⟩ := aft_spec t l (asc_tail h)
      have e : aft (a :: l) t = aft l t + 1 := by unfold aft; rw [List.takeWhile_cons_of_pos (by simpa using ha), List.length_cons]
      rw [e]
      refine ⟨by rw [List.length_cons]; omega, fun j hj => ?_, fun j hj hl => ?_⟩
      · cases j with
        | zero => rw [rd_zero]; exact ha
        | succ j => rw [rd_succ]; exact h2 j (by omega)
      · cases j with
        | zero => omega
        | succ j => rw [rd_succ]; exact h3 j (by omega) (by simpa using hl)
    · have e : aft (a :: l) t = 0 := by unfold aft; rw [List.takeWhile_cons_of_neg (by simpa using ha)]; rfl
      rw [e]
      refine ⟨Nat.zero_le _, fun j hj => absurd hj (Nat.not_lt_zero j), fun j _ hl => ?_⟩
      have := asc_le h (Nat.zero_le j) hl
      rw [rd_zero] at this
      omega
theorem aft_mono {l : List Int} (h : ascB l = true) {t u : Int} (htu : t ≤ u) : aft l t ≤ aft l u := by
  obtain ⟨a1, a2, a3⟩ := aft_spec t l h
  obtain ⟨b1, b2, b3⟩ := aft_spec u l h
  rcases Nat.lt_or_ge (aft l u) (aft l t) with g | g
  · have h1 := a2 (aft l u) g
    have h2 := b3 (aft l u) (Nat.le_refl _) (by omega)
    omega
  · exact g
theorem after_f {l : List Int} (h : ascB l = true) (hl : l.length ≤ 1000000) (t : Int) : legacy_after.f l t = some (aft l t : Int) := by
  unfold legacy_after.f
  rw [if_pos ⟨h, hl⟩]
/-- The type in effect. -/
def ieff (T I : List Int) (t : Int) : Int := if aft T t = 0 then 0 else rd I ((aft T t - 1 : Nat) : Int)
theorem ieff_byt {T I : List Int} (hI : Byt I) (t : Int) : 0 ≤ ieff T I t ∧ ieff T I t < 256 := by
  unfold ieff
  split
  · omega
  · exact hI.rd _
theorem ineff_f (b : S28) (h : ascB b.f0 = true) (hl : b.f0.length ≤ 1000000) (hs : b.f0.length ≤ b.f1.length) (hI : Byt b.f1) (t : Int) : legacy_InEffect.f b.f0 b.f1 b.f2 b.f3 b.f4 b.f5 b.f6 t = some (ieff b.f0 b.f1 t) := by
  obtain ⟨h1, _, _⟩ := aft_spec t b.f0 h
  unfold legacy_InEffect.f
  refine bnd (after_f h hl t) ?_
  unfold ieff
  by_cases h0 : aft b.f0 t = 0
  · rw [if_pos (by omega), if_pos h0]
  · have hb := hI.rd ((aft b.f0 t - 1 : Nat) : Int)
    rw [if_neg (by omega), if_neg h0, w64 (x := (aft b.f0 t : Int) - 1) (by omega) (by omega), show (aft b.f0 t : Int) - 1 = ((aft b.f0 t - 1 : Nat) : Int) by omega, if_pos (by omega), if_pos (by omega), w64 (by omega) (by omega)]
/-! two elements exchanged -/
def sw {α : Type} (d : α) (l : List α) (k : Nat) : List α := if k < l.length then (l.set 0 (l.getD k d)).set k (l.getD 0 d) else l
def othN (k j : Nat) : Nat := if j = 0 then k else if j = k then 0 else j
theorem sw_len {α : Type} (d : α) (l : List α) (k : Nat) : (sw d l k).length = l.length := by
  unfold sw
  split
  · rw [List.length_set, List.length_set]
  · rfl
theorem sw_get {α : Type} (d : α) (l : List α) (k j : Nat) (hk : k < l.length) (hj : j < l.length) : (sw d l k).getD j d = l.getD (othN k j) d := by
  unfold sw othN
  rw [if_pos hk]
  simp only [List.getD_eq_getElem?_getD]
  by_cases h1 : j = k
  · subst h1
    rw [List.getElem?_set_self (by rw [List.length_set]; exact hj)]
    by_cases h0 : j = 0
    · rw [if_pos h0, h0]; rfl
    · rw [if_neg h0, if_pos rfl]; rfl
  · rw [List.getElem?_set_ne (Ne.symm h1)]
    by_cases h0 : j = 0
    · subst h0
      rw [List.getElem?_set_self hj, if_pos rfl]; rfl
    · rw [List.getElem?_set_ne (Ne.symm h0), if_neg h0, if_neg h1]
theorem othN_oth (k j : Nat) : othN k (othN k j) = j := by
  unfold othN
  repeat' split
  all_goals omega
theorem othN_lt {k j n : Nat} (hk : k < n) (hj : j < n) : othN k j < n := by
  unfold othN
  repeat' split
  all_goals omega
theorem rnm_nat (k j : Nat) (hk : k < 256) (hj : j < 256) : rnm (k : Int) (j : Int) = ((othN k j : Nat) : Int) := by
  unfold rnm othN
  rw [w64 (x := (j : Int)) (by omega) (by omega)]
  repeat' split
  all_goals omega
theorem sw_zero {α : Type} (d : α) (l : List α) : sw d l 0 = l := by
  unfold sw
  split
  · rename_i h
    have e : l.getD 0 d = l[0] := by rw [List.getD_eq_getElem?_getD, List.getElem?_eq_getElem h]; rfl
    rw [e, List.set_getElem_self, List.set_getElem_self]
  · rfl
theorem swT_f (l : List S38) (hl : l.length ≤ 1000000) (k : Nat) : api_Type_32.f l (k : Int) = some (sw z38 l k) := by
  unfold api_Type_32.f api_Type_47.f
  rw [if_pos hl, Option.bind_some]
  unfold sw
  by_cases h : k < l.length
  · rw [if_pos (by omega), if_pos (by omega), if_pos (by omega), if_pos h, Int.toNat_natCast]
    rfl
  · rw [if_neg (by omega), if_neg h]
theorem swB_f (l : List Bool) (hl : l.length ≤ 1000000) (k : Nat) : legacy_swapped_bool.f l (k : Int) = some (sw false l k) := by
  unfold legacy_swapped_bool.f slices_Clone_bool_bool.f
  rw [if_pos hl, Option.bind_some]
  unfold sw
  by_cases h : k < l.length
  · rw [if_pos (by omega), if_pos (by omega), if_pos (by omega), if_pos h, Int.toNat_natCast]
    rfl
  · rw [if_neg (by omega), if_neg h]
/-! the view -/
def vp (b : S28) : Nat := aft b.f0 (-2147483649)
def vq (b : S28) : Nat := aft b.f0 2147483647
def vk (b : S28) : Nat := (ieff b.f0 b.f1 (-2147483649)).toNat
def vwOf (b : S28) : S28 := ⟨(b.f0.take (vq b)).drop (vp b), ((b.f1.take (vq b)).drop (vp b)).map (rnm (vk b : Int)), sw z38 b.f2 (vk b), b.f3, b.f4.filter (fun x => decide (x.f0 < 2147483648)), sw false b.f5 (vk b), sw false b.f6 (vk b)⟩
/-- What the view of a block asks. -/
structure Rises (b : S28) : Prop where
  asc : ascB b.f0 = true
  len : b.f1.length = b.f0.length
  byt : Byt b.f1
theorem vk_eq {b : S28} (h : Rises b) : ieff b.f0 b.f1 (-2147483649) = (vk b : Int) ∧ vk b < 256 := by
  have := ieff_byt (T := b.f0) h.byt (-2147483649)
  unfold vk
  omega
theorem vpq {b : S28} (h : Rises b) : vp b ≤ vq b ∧ vq b ≤ b.f0.length := ⟨aft_mono h.asc (by omega), (aft_spec _ _ h.asc).1⟩
theorem view_f {b : S28} (hS : Sm b) (h : Rises b) : legacy_View.f b.f0 b.f1 b.f2 b.f3 b.f4 b.f5 b.f6 = some ((vwOf b).f0, (vwOf b).f1, (vwOf b).f2, (vwOf b).f3, (vwOf b).f4, (vwOf b).f5, (vwOf b).f6) := by
  have h0 := hS.l0
  have h1 := hS.l1
  have h2 := hS.l2
  have h3 := hS.l3
  have h4 := hS.l4
  have h5 := hS.l5
  have h6 := hS.l6
  have hl := h.len
  obtain ⟨p1, p2⟩ := vpq h
  unfold legacy_View.f
  refine bnd (ineff_f b h.asc (by omega) (by omega) h.byt _) ?_
  refine bnd (after_f h.asc (by omega) _) ?_
  refine bnd (after_f h.asc (by omega) _) ?_
  rw [(vk_eq h).1, show aft b.f0 (-2147483649) = vp b from rfl, show aft b.f0 2147483647 = vq b from rfl, if_pos ⟨by omega, by omega, by omega, by omega, by omega, by omega⟩]
  have e0 : cutOf b.f0 (vp b : Int) (vq b : Int) = (b.f0.take (vq b)).drop (vp b) := by unfold cutOf; rw [Int.toNat_natCast, Int.toNat_natCast]
  have e1 : cutOf b.f1 (vp b : Int) (vq b : Int) = (b.f1.take (vq b)).drop (vp b) := by unfold cutOf; rw [Int.toNat_natCast, Int.toNat_natCast]
  rw [e0, e1]
  refine bnd (show slices_Clone_int64_int64.f _ = some _ by unfold slices_Clone_int64_int64.f; rw [if_pos (by rw [List.length_drop, List.length_take]; omega)]) ?_
  refine bnd (swT_f b.f2 (by omega) _) ?_
  refine bnd (show slices_Clone_byte_byte.f b.f3 = some b.f3 by unfold slices_Clone_byte_byte.f; rw [if_pos (by omega)]) ?_
  refine bnd (swB_f b.f5 (by omega) _) ?_
  refine bnd (swB_f b.f6 (by omega) _) ?_
  rfl
theorem rd_cut (l : List Int) (p q j : Nat) (hq : q ≤ l.length) (hj : p + j < q) : rd ((l.take q).drop p) (j : Int) = rd l ((p + j : Nat) : Int) := by
  rw [rd_drop _ _ _ (by omega), show (p : Int) + (j : Int) = ((p + j : Nat) : Int) by omega, rd_nat _ (p + j) (by rw [List.length_take]; omega), rd_nat l (p + j) (by omega), List.getElem_take]
theorem cut_len {l : List Int} {p q : Nat} (hq : q ≤ l.length) : ((l.take q).drop p).length = q - p := by rw [List.length_drop, List.length_take]; omega
theorem cut_asc {l : List Int} (h : ascB l = true) (p q : Nat) (hq : q ≤ l.length) : ascB ((l.take q).drop p) = true := by
  refine Asc.ascB _ (fun j hj => ?_)
  rw [cut_len hq] at hj
  rw [rd_cut l p q j hq (by omega), rd_cut l p q (j + 1) hq (by omega)]
  exact asc_of h (p + j) (by omega)
theorem aft_cut {l : List Int} (h : ascB l = true) (t : Int) {p q : Nat} (hq : q ≤ l.length) (h1 : p ≤ aft l t) (h2 : aft l t ≤ q) : aft ((l.take q).drop p) t = aft l t - p := by
  obtain ⟨a1, a2, a3⟩ := aft_spec t l h
  refine aft_eq t _ _ (by rw [cut_len hq]; omega) (fun j hj => ?_) (fun j hj hl => ?_)
  · rw [rd_cut l p q j hq (by omega)]; exact a2 _ (by omega)
  · rw [cut_len hq] at hl
    rw [rd_cut l p q j hq (by omega)]; exact a3 _ (by omega) (by omega)
theorem rd_map (f : Int → Int) (l : List Int) (j : Nat) (hj : j < l.length) : rd (l.map f) (j : Int) = f (rd l (j : Int)) := by
  rw [rd_nat _ j (by rw [List.length_map]; exact hj), rd_nat l j hj, List.getElem_map]
theorem byt_map {k : Int} (hk : 0 ≤ k ∧ k < 256) {l : List Int} (h : Byt l) : Byt (l.map (rnm k)) := fun x hx => by
  obtain ⟨y, hy, rfl⟩ := List.mem_map.1 hx
  have := h y hy
  unfold rnm
  repeat' split
  all_goals omega
theorem Rises.of {b : S28} (hW : Wd b) {ver s : Int} (h : BOk b ver s) : Rises b := ⟨Asc.ascB _ h.asc, h.same, hW.i⟩
theorem Rises.view {b : S28} (h : Rises b) : Rises (vwOf b) := by
  obtain ⟨p1, p2⟩ := vpq h
  have hl := h.len
  refine ⟨cut_asc h.asc _ _ p2, ?_, byt_map (by have := (vk_eq h).2; omega) ((h.byt.take _).drop _)⟩
  show (((b.f1.take (vq b)).drop (vp b)).map _).length = ((b.f0.take (vq b)).drop (vp b)).length
  rw [List.length_map, cut_len p2, cut_len (by omega)]
theorem Sm.view {b : S28} (h : Sm b) : Sm (vwOf b) := by
  have h0 := h.l0
  have h1 := h.l1
  refine ⟨?_, ?_, ?_, h.l3, ?_, ?_, ?_⟩
  · show ((b.f0.take (vq b)).drop (vp b)).length ≤ 200
    rw [List.length_drop, List.length_take]; omega
  · show (((b.f1.take (vq b)).drop (vp b)).map _).length ≤ 200
    rw [List.length_map, List.length_drop, List.length_take]; omega
  · show (sw z38 b.f2 _).length ≤ 200
    rw [sw_len]; exact h.l2
  · exact Nat.le_trans (List.length_filter_le _ _) h.l4
  · show (sw false b.f5 _).length ≤ 200
    rw [sw_len]; exact h.l5
  · show (sw false b.f6 _).length ≤ 200
    rw [sw_len]; exact h.l6
theorem vk_lt {b : S28} (hr : Rises b) (h0 : 0 < b.f2.length) (hi : ∀ j : Nat, j < b.f1.length → rd b.f1 (j : Int) < b.f2.length) : vk b < b.f2.length := by
  have := (vk_eq hr).1
  obtain ⟨a1, _, _⟩ := aft_spec (-2147483649) b.f0 hr.asc
  unfold ieff at this
  split at this
  · omega
  · have g := hi (aft b.f0 (-2147483649) - 1) (by rw [hr.len]; omega)
    omega
end Go.Proofs.Ytfomlahadnihhaa.Pure
