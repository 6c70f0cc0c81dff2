/- The plain law behind the walk of LegacyViewAgrees. No condition. -/
import Derived.Test.YtfomlahadnihhaaWWords
import Derived.Test.YtfomlahadnihhaaWMore
import Derived.Test.YtfomlahadnihhaaOwn
import Derived.Test.YtfomlahadnihhaaGx17
import Derived.Test.YtfomlahadnihhaaGx7
import Derived.Test.YtfomlahadnihhaaBase
import Derived.Test.YtfomlahadnihhaaVb22
import Derived.Test.YtfomlahadnihhaaLeg22
import Derived.Test.YtfomlahadnihhaaSayLegacyViewAgrees
set_option linter.unusedVariables false
set_option linter.unusedSimpArgs false
namespace Go.Proofs.Ytfomlahadnihhaa.Pure
open Go.RowKit Go.Proofs.Ytfomlahadnihhaa.G Go.Proofs.YtfomlahadnihhaaW.PrintWords Go.Proofs.YtfomlahadnihhaaW.PrintLast Go.Proofs.YtfomlahadnihhaaW.PrintMore
/-! a list of times beside itself -/
theorem self_l (a : List Int) (hl : a.length ≤ 1000000) : ∀ (d i k : Nat), i + d = a.length → d < k → zoneinforef15_Same.l0 k a a (i : Int) = some true := by
  intro d
  induction d with
  | zero =>
    intro i k hi hk
    obtain ⟨k, rfl⟩ : ∃ j, k = j + 1 := ⟨k - 1, by omega⟩
    rw [zoneinforef15_Same.l0, if_neg (by omega)]
  | succ d ih =>
    intro i k hi hk
    obtain ⟨k, rfl⟩ : ∃ j, k = j + 1 := ⟨k - 1, by omega⟩
    rw [zoneinforef15_Same.l0, if_pos (by omega), if_pos (by omega), if_pos (by omega), if_pos rfl, next i (by omega)]
    exact ih (i + 1) k (by omega) (by omega)
theorem self_f (a : List Int) (hl : a.length ≤ 1000000) (k : Nat) (hk : a.length < k) : zoneinforef15_Same.f k a a = some true := by
  unfold zoneinforef15_Same.f
  rw [if_pos rfl]
  exact self_l a hl a.length 0 k (by omega) hk
/-! the leap second records of the view are the first ones -/
theorem lp_step {l : List S42} {ver : Int} (h : ∀ j : Nat, j < l.length → lpOk l ver j) (i : Nat) (hi : i + 1 < l.length) : (rd_T42 l (i : Int)).f0 ≤ (rd_T42 l ((i + 1 : Nat) : Int)).f0 := by
  have := h (i + 1) hi
  unfold lpOk at this
  rw [if_neg (by omega), Nat.add_sub_cancel] at this
  exact this.1
theorem lp_le {l : List S42} {ver : Int} (h : ∀ j : Nat, j < l.length → lpOk l ver j) (i : Nat) : ∀ d : Nat, i + d < l.length → (rd_T42 l (i : Int)).f0 ≤ (rd_T42 l ((i + d : Nat) : Int)).f0
  | 0, _ => Int.le_refl _
  | d + 1, hd => Int.le_trans (lp_le h i d (by omega)) (lp_step h (i + d) (by omega))
theorem lp_pos {l : List S42} {ver : Int} (h : ∀ j : Nat, j < l.length → lpOk l ver j) (j : Nat) (hj : j < l.length) : 0 ≤ (rd_T42 l (j : Int)).f0 := by
  have h0 := h 0 (by omega)
  unfold lpOk at h0
  rw [if_pos rfl] at h0
  have h1 := lp_le h 0 j (by omega)
  rw [Nat.zero_add, show ((0 : Nat) : Int) = 0 from rfl] at h1
  omega
theorem lp_pair {l : List S42} {ver : Int} (h : ∀ j : Nat, j < l.length → lpOk l ver j) : l.Pairwise (fun a b => a.f0 ≤ b.f0) := by
  rw [List.pairwise_iff_getElem]
  intro i j hi hj hij
  have := lp_le h i (j - i) (by omega)
  rw [show i + (j - i) = j by omega, rd42_nat l i hi, rd42_nat l j hj] at this
  exact this
theorem filter_pre (c : Int) : ∀ l : List S42, l.Pairwise (fun a b => a.f0 ≤ b.f0) → ∃ m, m ≤ l.length ∧ l.filter (fun x => decide (x.f0 < c)) = l.take m
  | [], _ => ⟨0, Nat.le_refl 0, rfl⟩
  | a :: l, h => by
    rw [List.pairwise_cons] at h
    by_cases ha : a.f0 < c
    · obtain ⟨m, h1, h2⟩ := filter_pre c l h.2
      refine ⟨m + 1, by rw [List.length_cons]; omega, ?_⟩
      rw [List.filter_cons_of_pos (by simpa using ha), h2, List.take_succ_cons]
    · refine ⟨0, Nat.zero_le _, ?_⟩
      rw [List.take_zero, List.filter_eq_nil_iff]
      intro x hx
      rcases List.mem_cons.1 hx with rfl | hx
      · simpa using ha
      · have := h.1 x hx
        simp
        omega
theorem rd42_take (l : List S42) (m j : Nat) (hj : j < m) (hm : m ≤ l.length) : rd_T42 (l.take m) (j : Int) = rd_T42 l (j : Int) := by
  rw [rd42_nat _ j (by rw [List.length_take]; omega), rd42_nat l j (by omega), List.getElem_take]
theorem lp_take {l : List S42} {ver : Int} (h : ∀ j : Nat, j < l.length → lpOk l ver j) (m : Nat) (hm : m ≤ l.length) : ∀ j : Nat, j < (l.take m).length → lpOk (l.take m) ver j := by
  intro j hj
  rw [List.length_take] at hj
  have g := h j (by omega)
  unfold lpOk at g ⊢
  by_cases h0 : j = 0
  · subst h0
    rw [if_pos rfl] at g ⊢
    have := rd42_take l m 0 (by omega) hm
    rw [show ((0 : Nat) : Int) = 0 from rfl] at this
    rw [this]
    exact g
  · rw [if_neg h0] at g ⊢
    rw [rd42_take l m j (by omega) hm, rd42_take l m (j - 1) (by omega) hm, List.length_take]
    refine ⟨g.1, g.2.1, ?_⟩
    rcases g.2.2 with e | e | e
    · exact .inl e
    · exact .inr (.inl e)
    · exact .inr (.inr ⟨e.1, e.2.1, by omega⟩)
theorem rdT_get (l : List S38) (j : Nat) : rd_T38 l (j : Int) = l.getD j z38 := by unfold rd_T38; rw [Int.toNat_natCast]
theorem rdB_get (l : List Bool) (j : Nat) : rdOf false l (j : Int) = l.getD j false := by unfold rdOf; rw [Int.toNat_natCast]
variable {b : S28}
/-- The view of a valid block is valid with times of four bytes. -/
theorem view_ok (hW : Wd b) {ver : Int} (h : BOk b ver 8) : BOk (vwOf b) ver 4 := by
  have hr := Rises.of hW h
  obtain ⟨p1, p2⟩ := vpq hr
  obtain ⟨k1, k2⟩ := vk_eq hr
  have hk := vk_lt hr h.some_ h.index
  obtain ⟨a1, a2, a3⟩ := aft_spec (-2147483649) b.f0 hr.asc
  obtain ⟨c1, c2, c3⟩ := aft_spec 2147483647 b.f0 hr.asc
  obtain ⟨m, hm, em⟩ := filter_pre 2147483648 b.f4 (lp_pair h.lps)
  have e0 : (vwOf b).f0 = (b.f0.take (vq b)).drop (vp b) := rfl
  have e1 : (vwOf b).f1 = ((b.f1.take (vq b)).drop (vp b)).map (rnm (vk b : Int)) := rfl
  have e2 : (vwOf b).f2 = sw z38 b.f2 (vk b) := rfl
  have e4 : (vwOf b).f4 = b.f4.take m := em
  have e5 : (vwOf b).f5 = sw false b.f5 (vk b) := rfl
  have e6 : (vwOf b).f6 = sw false b.f6 (vk b) := rfl
  have n2 : (vwOf b).f2.length = b.f2.length := by rw [e2, sw_len]
  have n5 : (vwOf b).f5.length = b.f5.length := by rw [e5, sw_len]
  have n6 : (vwOf b).f6.length = b.f6.length := by rw [e6, sw_len]
  have hl := h.same
  refine ⟨hr.view.len, by rw [n2]; exact h.some_, h.chars, by rw [n5, n2]; exact h.std, by rw [n6, n2]; exact h.ut, fun j hj => ?_, fun j hj => ?_, asc_of hr.view.asc, fun j hj => ?_, fun j hj => ?_, fun j hj => ?_, h.tab, ?_, fun j hj ht => ?_⟩
  · rw [e0, cut_len p2] at hj
    rw [e0, rd_cut _ _ _ j p2 (by omega)]
    have g1 := a3 (vp b + j) (by show vp b ≤ _; omega) (by omega)
    have g2 := c2 (vp b + j) (by show _ < vq b; omega)
    unfold fitB
    rw [if_neg (by decide)]
    exact decide_eq_true (by omega)
  · have hj' : j < (b.f4.take m).length := by rw [← e4]; exact hj
    rw [List.length_take] at hj'
    have g1 := lp_pos h.lps j (by omega)
    have g2 : (rd_T42 (vwOf b).f4 (j : Int)).f0 < 2147483648 := by
      rw [rd42_nat _ j hj]
      have : (vwOf b).f4[j] ∈ b.f4.filter (fun x => decide (x.f0 < 2147483648)) := List.getElem_mem hj
      have := (List.mem_filter.1 this).2
      exact of_decide_eq_true this
    rw [e4, rd42_take b.f4 m j (by omega) hm] at g2 ⊢
    unfold fitB
    rw [if_neg (by decide)]
    exact decide_eq_true (by omega)
  · rw [e1, List.length_map, cut_len (by omega)] at hj
    rw [e1, rd_map _ _ j (by rw [cut_len (by omega)]; exact hj), rd_cut _ _ _ j (by omega) (by omega), n2]
    have g1 := hW.i.rd ((vp b + j : Nat) : Int)
    have g2 := h.index (vp b + j) (by omega)
    obtain ⟨y, hy⟩ := Int.eq_ofNat_of_zero_le g1.1
    rw [hy] at g1 g2 ⊢
    rw [rnm_nat _ _ k2 (by omega)]
    have := othN_lt hk (show y < b.f2.length by omega)
    omega
  · rw [n2] at hj
    rw [e2, rdT_get, sw_get z38 b.f2 (vk b) j hk hj, ← rdT_get]
    exact h.offs _ (othN_lt hk hj)
  · rw [n2] at hj
    rw [e2, rdT_get, sw_get z38 b.f2 (vk b) j hk hj, ← rdT_get]
    exact h.desig _ (othN_lt hk hj)
  · rw [e4]
    exact lp_take h.lps m hm
  · rw [n6] at hj
    have q6 : b.f6.length = b.f2.length := by have := h.ut; omega
    rw [e6, rdB_get, sw_get false b.f6 (vk b) j (by omega) hj, ← rdB_get] at ht
    have g := h.ind _ (by have := othN_lt hk (show j < b.f2.length by omega); omega) ht
    have q5 : b.f5.length = b.f2.length := by have := h.std; omega
    rw [n5]
    refine ⟨by omega, ?_⟩
    rw [e5, rdB_get, sw_get false b.f5 (vk b) j (by omega) (by omega), ← rdB_get]
    exact g.2
/-- The type in effect of the view is the block's, renamed. -/
theorem view_eff (hr : Rises b) (t : Int) (ht : -2147483648 ≤ t ∧ t < 2147483648) (h0 : 0 < b.f2.length) (hi : ∀ j : Nat, j < b.f1.length → rd b.f1 (j : Int) < b.f2.length) : ∃ i : Nat, i < b.f2.length ∧ i < 256 ∧ ieff b.f0 b.f1 t = (i : Int) ∧ ieff (vwOf b).f0 (vwOf b).f1 t = ((othN (vk b) i : Nat) : Int) := by
  obtain ⟨p1, p2⟩ := vpq hr
  obtain ⟨k1, k2⟩ := vk_eq hr
  have hk := vk_lt hr h0 hi
  have hl := hr.len
  have a1 : vp b ≤ aft b.f0 t := aft_mono hr.asc (by omega)
  have a2 : aft b.f0 t ≤ vq b := aft_mono hr.asc (by omega)
  have e : aft (vwOf b).f0 t = aft b.f0 t - vp b := aft_cut hr.asc t p2 a1 a2
  have e1 : (vwOf b).f1 = ((b.f1.take (vq b)).drop (vp b)).map (rnm (vk b : Int)) := rfl
  by_cases h1 : aft b.f0 t = vp b
  · refine ⟨vk b, hk, k2, ?_, ?_⟩
    · rw [← k1]
      unfold ieff
      rw [h1]
      rfl
    · unfold ieff
      rw [e, h1, Nat.sub_self, if_pos rfl]
      unfold othN
      by_cases hz : vk b = 0
      · rw [if_pos hz, hz]; rfl
      · rw [if_neg hz, if_pos rfl]; rfl
  · have g1 := hr.byt.rd ((aft b.f0 t - 1 : Nat) : Int)
    have g2 := hi (aft b.f0 t - 1) (by omega)
    obtain ⟨y, hy⟩ := Int.eq_ofNat_of_zero_le g1.1
    refine ⟨y, by omega, by omega, ?_, ?_⟩
    · unfold ieff
      rw [if_neg (by omega), hy]
    · unfold ieff
      rw [e, if_neg (by omega), e1, rd_map _ _ _ (by rw [cut_len (by omega)]; omega), rd_cut _ _ _ _ (by omega) (by omega), show vp b + (aft b.f0 t - vp b - 1) = aft b.f0 t - 1 by omega, hy]
      exact rnm_nat _ _ k2 (by omega)
theorem va_j2 (x : S28) (i k' : Nat) (k : Nat) (h5 : x.f5.length = b.f5.length) (h6 : x.f6.length = b.f6.length) (q5 : b.f5.length = 0 ∨ (k' < b.f5.length ∧ i < b.f5.length ∧ rdOf false x.f5 (k' : Int) = rdOf false b.f5 (i : Int))) (q6 : b.f6.length = 0 ∨ (k' < b.f6.length ∧ i < b.f6.length ∧ rdOf false x.f6 (k' : Int) = rdOf false b.f6 (i : Int))) :
    zoneinfolaw22_LegacyViewAgrees.j2 (k + 1) (i : Int) (k' : Int) false b.f0 b.f1 b.f2 b.f3 b.f4 b.f5 b.f6 x.f0 x.f1 x.f2 x.f3 x.f4 x.f5 x.f6 = some true := by
  simp only [zoneinfolaw22_LegacyViewAgrees.j2]
  rw [if_neg (by decide), if_pos (by omega), if_pos (by omega)]
  by_cases e5 : b.f5.length = 0
  · rw [if_pos (by omega)]
    by_cases e6 : b.f6.length = 0
    · rw [if_pos (by omega)]
    · obtain ⟨r1, r2, r3⟩ := q6.resolve_left e6
      rw [if_neg (by omega), if_pos (by omega), if_pos (by omega), if_pos (by omega), if_pos (by omega), r3]
      simp
  · obtain ⟨s1, s2, s3⟩ := q5.resolve_left e5
    rw [if_neg (by omega), if_pos (by omega), if_pos (by omega), if_pos (by omega), if_pos (by omega), s3, if_pos (by simp)]
    by_cases e6 : b.f6.length = 0
    · rw [if_pos (by omega)]
    · obtain ⟨r1, r2, r3⟩ := q6.resolve_left e6
      rw [if_neg (by omega), if_pos (by omega), if_pos (by omega), r3]
      simp
theorem va_j1 (hS : Sm b) (hW : Wd b) {ver : Int} (h : BOk b ver 8) (t : Int) (ht : -2147483648 ≤ t ∧ t < 2147483648) (g : Bool) (k : Nat) (hk : 300 < k) :
    zoneinfolaw22_LegacyViewAgrees.j1 (k + 1) t ((vwOf b).f0.length : Int) g b.f0 b.f1 b.f2 b.f3 b.f4 b.f5 b.f6 (vwOf b).f0 (vwOf b).f1 (vwOf b).f2 (vwOf b).f3 (vwOf b).f4 (vwOf b).f5 (vwOf b).f6 = some true := by
  have hr := Rises.of hW h
  have hS2 := hS.view
  have l0 := hS.l0
  have m0 := hS2.l0
  simp only [zoneinfolaw22_LegacyViewAgrees.j1]
  cases g with
  | true => rw [if_pos rfl]
  | false =>
    obtain ⟨i, i1, i2, i3, i4⟩ := view_eff hr t ht h.some_ h.index
    have hvk := vk_lt hr h.some_ h.index
    have ho := othN_lt hvk i1
    have n2 : (vwOf b).f2.length = b.f2.length := sw_len _ _ _
    have n5 : (vwOf b).f5.length = b.f5.length := sw_len _ _ _
    have n6 : (vwOf b).f6.length = b.f6.length := sw_len _ _ _
    rw [if_neg (by decide), w64 (x := t) (by omega) (by omega)]
    refine bnd (ineff_f b hr.asc (by omega) (by have := hr.len; omega) hr.byt t) ?_
    refine bnd (ineff_f (vwOf b) hr.view.asc (by omega) (by have := hr.view.len; omega) hr.view.byt t) ?_
    rw [i3, i4, if_neg (by omega), if_neg (by omega), if_neg (by omega), if_neg (by omega), if_pos (by omega), if_pos (by omega), if_pos (by omega), if_pos (by omega)]
    have eT : rd_T38 (vwOf b).f2 ((othN (vk b) i : Nat) : Int) = rd_T38 b.f2 (i : Int) := by
      rw [show (vwOf b).f2 = sw z38 b.f2 (vk b) from rfl, rdT_get, sw_get z38 b.f2 (vk b) _ hvk ho, othN_oth, ← rdT_get]
    rw [eT, if_neg (by simp), if_pos (by omega), if_pos (by omega), Int.toNat_natCast, List.take_length]
    refine bnd (self_f _ (by omega) k (by omega)) ?_
    obtain ⟨k, rfl⟩ : ∃ m, k = m + 1 := ⟨k - 1, by omega⟩
    have q5 := h.std
    have q6 := h.ut
    refine va_j2 (vwOf b) i (othN (vk b) i) k n5 n6 ?_ ?_
    · rcases q5 with q | q
      · exact .inl q
      · refine .inr ⟨by omega, by omega, ?_⟩
        rw [show (vwOf b).f5 = sw false b.f5 (vk b) from rfl, rdB_get, sw_get false b.f5 (vk b) _ (by omega) (by omega), othN_oth, ← rdB_get]
    · rcases q6 with q | q
      · exact .inl q
      · refine .inr ⟨by omega, by omega, ?_⟩
        rw [show (vwOf b).f6 = sw false b.f6 (vk b) from rfl, rdB_get, sw_get false b.f6 (vk b) _ (by omega) (by omega), othN_oth, ← rdB_get]
theorem LegacyViewAgrees : Opn.LegacyViewAgrees := by
  intro z i ty c s st ut a1 t w0 w1 w2 w3 w4 w5 w6 w7 w8
  have hW : Wd ⟨z, i, ty, c, s, st, ut⟩ := ⟨I64s.of w0.2, Byt.of w1.2, WfT.of w2.2, WfS.of w4.2⟩
  generalize hb : (⟨z, i, ty, c, s, st, ut⟩ : S28) = b at hW
  have ha := wf_u8 w7
  have ht := wf_i32 w8
  refine ⟨5000, ?_⟩
  generalize hK : (5000 : Nat) = K
  obtain ⟨k, rfl⟩ : ∃ m, K = m + 3 := ⟨K - 3, by omega⟩
  have ev : wrap64 (1 + wrap64 (Int.tmod a1 4)) = 1 + a1 % 4 := by
    obtain ⟨a, rfl⟩ := Int.eq_ofNat_of_zero_le ha.1
    have e : Int.tmod (a : Int) 4 = ((a % 4 : Nat) : Int) := Int.ofNat_tmod a 4
    rw [e, w64 (x := ((a % 4 : Nat) : Int)) (by omega) (by omega), w64 (by omega) (by omega)]
    omega
  have goal : ∀ b : S28, Wd b → zoneinfolaw22_LegacyViewAgrees.f (k + 3) b.f0 b.f1 b.f2 b.f3 b.f4 b.f5 b.f6 a1 t = some true := by
    clear hb hW
    intro b hW
    unfold zoneinfolaw22_LegacyViewAgrees.f zoneinfolaw22_awake.f
    rw [Option.bind_some, if_pos rfl, ev]
    have hT : zoneinfolaw22_LegacyViewAgrees.j0 (k + 3) t (1 + a1 % 4) true b.f0 b.f1 b.f2 b.f3 b.f4 b.f5 b.f6 = some true := by
      simp only [zoneinfolaw22_LegacyViewAgrees.j0]
      rw [if_pos trivial]
      rfl
    obtain ⟨v, e, hv⟩ := few_f b
    refine bnd e ?_
    cases v with
    | false => rw [if_neg (by decide)]; exact hT
    | true =>
      have hS := hv.1 rfl
      rw [if_pos rfl]
      obtain ⟨v, e, hv⟩ := block_f hS hW (1 + a1 % 4) 8 (.inr rfl) (k + 3) (by omega)
      refine bnd e ?_
      by_cases h0 : v = 0
      case neg => rw [show (v != 0) = true from bne_iff_ne.2 h0]; exact hT
      have h := hv.1 h0
      rw [show (v != 0) = false by rw [h0]; rfl]
      have hr := Rises.of hW h
      have hS2 := hS.view
      have m0 := hS2.l0
      simp only [zoneinfolaw22_LegacyViewAgrees.j0]
      rw [if_neg (by decide)]
      refine bnd (view_f hS hr) ?_
      dsimp only
      have hW2 : Wd (vwOf b) := by
        refine ⟨fun x hx => hW.z x (List.mem_of_mem_take (List.mem_of_mem_drop hx)), hr.view.byt, fun x hx => ?_, fun x hx => hW.s x (List.mem_filter.1 hx).1⟩
        obtain ⟨j, hj, rfl⟩ := List.mem_iff_getElem.1 hx
        have hvk := vk_lt hr h.some_ h.index
        have n2 : (vwOf b).f2.length = b.f2.length := sw_len _ _ _
        have := hW.t.rd (othN (vk b) j) (othN_lt hvk (by omega))
        rw [rdT_get, ← sw_get z38 b.f2 (vk b) j hvk (by omega), ← rdT_get] at this
        rw [← rd38_nat _ j hj]
        exact this
      obtain ⟨u, e2, hu⟩ := block_f hS2 hW2 (1 + a1 % 4) 4 (.inl rfl) (k + 2) (by omega)
      refine bnd e2 ?_
      rw [if_pos (hu.2 (view_ok hW h))]
      by_cases hn : (vwOf b).f0.length = 0
      · rw [if_pos (by omega)]
        exact va_j1 hS hW h t (by omega) true (k + 1) (by omega)
      · rw [if_neg (by omega), w64 (x := ((vwOf b).f0.length : Int) - 1) (by omega) (by omega), if_pos (by omega), if_pos (by omega)]
        exact va_j1 hS hW h t (by omega) _ (k + 1) (by omega)
  have := goal b hW
  subst hb
  exact this
end Go.Proofs.Ytfomlahadnihhaa.Pure
