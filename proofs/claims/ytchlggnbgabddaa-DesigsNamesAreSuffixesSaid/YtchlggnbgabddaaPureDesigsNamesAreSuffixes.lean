/- The plain law behind the walk of DesigsNamesAreSuffixes. No condition. -/
import Derived.Test.YtchlggnbgabddaaWWords
import Derived.Test.YtchlggnbgabddaaWMore
import Derived.Test.YtchlggnbgabddaaOwn
import Derived.Test.YtchlggnbgabddaaGx15
import Derived.Test.YtchlggnbgabddaaGx28
import Derived.Test.YtchlggnbgabddaaBase
import Derived.Test.YtchlggnbgabddaaBig
import Derived.Test.YtchlggnbgabddaaDes
set_option linter.unusedVariables false
set_option linter.unusedSimpArgs false
namespace Go.Proofs.Ytchlggnbgabddaa.Pure
open Go.RowKit Go.Proofs.Ytchlggnbgabddaa.G Go.Proofs.YtchlggnbgabddaaW.PrintWords Go.Proofs.YtchlggnbgabddaaW.PrintLast Go.Proofs.YtchlggnbgabddaaW.PrintMore
theorem nulAt_ne {c : Int} (h0 : 0 ≤ c) (h : c < 256) (hne : c ≠ 0) : nulAt c = false := by
  obtain ⟨n, rfl⟩ := Int.eq_ofNat_of_zero_le h0
  unfold nulAt
  rw [Int.toNat_natCast, beq_eq_false_iff_ne]
  intro e
  have := congrArg UInt8.toNat e
  simp at this
  omega
/-- A table that is valid ends in a NUL. -/
theorem valid_end {l : List Int} (h : badOf l < 0) : 1 ≤ l.length ∧ rd l ((l.length : Int) - 1) = 0 := by
  unfold badOf badEnd at h
  split at h
  · omega
  · split at h
    · omega
    · split at h
      · exact ⟨by omega, by assumption⟩
      · omega
/-- Where the name that begins at i ends. -/
theorem name_end (l : List Int) (hB : Byt l) : ∀ (d i : Nat), i + d + 1 = l.length → rd l ((l.length : Int) - 1) = 0 → ∃ m, m ≤ d ∧ nameOf (l.drop i) = (l.drop i).take m ∧ rd l ((i + m : Nat) : Int) = 0 ∧ ∀ j, j < m → rd l ((i + j : Nat) : Int) ≠ 0 := by
  intro d
  induction d with
  | zero =>
    intro i hi h0
    refine ⟨0, Nat.le_refl 0, ?_, ?_, fun j hj => by omega⟩
    · rw [drop_rd l i (by omega), show (i : Int) = (l.length : Int) - 1 by omega, h0, List.take_zero]
      unfold nameOf
      rw [List.takeWhile_cons_of_neg (by decide)]
    · rw [show ((i + 0 : Nat) : Int) = (l.length : Int) - 1 by omega]; exact h0
  | succ d ih =>
    intro i hi h0
    by_cases hc : rd l (i : Int) = 0
    · refine ⟨0, by omega, ?_, by rw [Nat.add_zero]; exact hc, fun j hj => by omega⟩
      rw [drop_rd l i (by omega), hc, List.take_zero]
      unfold nameOf
      rw [List.takeWhile_cons_of_neg (by decide)]
    · obtain ⟨m, hm, e, hz, hnz⟩ := ih (i + 1) (by omega) h0
      have hb := hB.rd (i : Int)
      refine ⟨m + 1, by omega, ?_, by rw [show i + (m + 1) = i + 1 + m by omega]; exact hz, fun j hj => ?_⟩
      · rw [drop_rd l i (by omega), List.take_succ_cons, ← e]
        unfold nameOf
        rw [List.takeWhile_cons_of_pos (by rw [nulAt_ne hb.1 hb.2 hc]; rfl)]
      · by_cases hj0 : j = 0
        · subst hj0; rw [Nat.add_zero]; exact hc
        · have := hnz (j - 1) (by omega)
          rw [show i + 1 + (j - 1) = i + j by omega] at this
          exact this
theorem bt_str (l : List Int) (hB : Byt l) (i : Nat) (hi : i < l.length) : bt (strOfNums l) (i : Int) = rd l (i : Int) := by
  rw [← rd_bytesOf]
  have e : bytesOf (strOfNums l) = l := by
    unfold bytesOf
    rw [strOfNums_data, List.map_map]
    conv => rhs; rw [← List.map_id l]
    refine List.map_congr_left fun x hx => ?_
    have := hB x hx
    obtain ⟨n, rfl⟩ := Int.eq_ofNat_of_zero_le this.1
    simp
    omega
  rw [e]
theorem name_at (l : List Int) (hl : l.length ≤ 1000) (i : Nat) (hi : i < l.length) : desigs_Name.f l (i : Int) = some (strOfNums (nameOf (l.drop i)), true) := by
  unfold desigs_Name.f
  rw [if_neg (by omega), if_neg (by omega), if_pos (by omega), Int.toNat_natCast]
theorem name_out (l : List Int) (i : Int) (h : i < 0 ∨ (l.length : Int) ≤ i) : desigs_Name.f l i = some (⟨#[]⟩, false) := by
  unfold desigs_Name.f
  by_cases h0 : i < 0
  · rw [if_pos h0]
  · rw [if_neg h0, if_pos (by omega)]
theorem toList_self (s : ByteArray) : (s.toList != s.toList) = false := by simp
theorem suf_loop (l : List Int) (hB : Byt l) (hl : l.length ≤ 1000) (n m : Nat) (hnm : n + m < l.length) (hz : rd l ((l.length : Int) - 1) = 0) (e : nameOf (l.drop n) = (l.drop n).take m) (hnz : ∀ j, j < m → rd l ((n + j : Nat) : Int) ≠ 0) :
    ∀ (d j k : Nat), j + d = m → d < k → zoneinfolaw12_DesigsNamesAreSuffixes.l0 k l (n : Int) (strOfNums ((l.drop n).take m)) (j : Int) = some true := by
  have hlen : ((l.drop n).take m).length = m := by rw [List.length_take, List.length_drop]; omega
  have hsz : (strOfNums ((l.drop n).take m)).size = m := by rw [strOfNums_size, hlen]
  intro d
  induction d with
  | zero =>
    intro j k hj hk
    obtain ⟨k, rfl⟩ : ∃ q, k = q + 1 := ⟨k - 1, by omega⟩
    simp only [zoneinfolaw12_DesigsNamesAreSuffixes.l0, hsz]
    rw [if_neg (by omega), w64 (x := (l.length : Int) - 1) (by omega) (by omega)]
    have hlast : desigs_Name.f l ((l.length : Int) - 1) = some (strOfNums [], true) := by
      have h := name_at l hl (l.length - 1) (by omega)
      rw [show ((l.length - 1 : Nat) : Int) = (l.length : Int) - 1 by omega, drop_rd l (l.length - 1) (by omega), show ((l.length - 1 : Nat) : Int) = (l.length : Int) - 1 by omega, hz] at h
      rw [h]
      unfold nameOf
      rw [List.takeWhile_cons_of_neg (by decide)]
    refine bnd hlast ?_
    dsimp only
    rw [if_pos rfl, if_pos (show (strOfNums []).toList = ([] : List UInt8) by decide +kernel)]
    by_cases h0 : (m : Int) = 0
    · rw [if_pos h0]
      decide +kernel
    · rw [if_neg h0, w64 (x := (n : Int) + 1) (by omega) (by omega)]
      have hc0 := hnz 0 (by omega)
      rw [Nat.add_zero] at hc0
      have hb := hB.rd (n : Int)
      have hd := drop_rd l n (by omega)
      obtain ⟨m', rfl⟩ : ∃ q, m = q + 1 := ⟨m - 1, by omega⟩
      have e2 : nameOf (l.drop (n + 1)) = (l.drop (n + 1)).take m' := by
        rw [hd, List.take_succ_cons] at e
        unfold nameOf at e
        rw [List.takeWhile_cons_of_pos (by rw [nulAt_ne hb.1 hb.2 hc0]; rfl)] at e
        exact (List.cons.inj e).2
      have hnext := name_at l hl (n + 1) (by omega)
      rw [show ((n + 1 : Nat) : Int) = (n : Int) + 1 by omega, e2] at hnext
      refine bnd hnext ?_
      dsimp only
      rw [if_pos rfl, if_pos (by omega)]
      congr 1
      rw [beq_iff_eq]
      have : strOfNums ((l.drop (n + 1)).take m') = (strOfNums ((l.drop n).take (m' + 1))).extract 1 (m' + 1) := by
        apply Go.WideShapes.bytes_inj
        rw [hd, List.take_succ_cons]
        have e3 : ∀ (c : UInt8) (r : List UInt8) (q : Nat), r.length = q → (((⟨(c :: r).toArray⟩ : ByteArray).extract 1 (q + 1)).data.toList = r) := by
          intro c r q hq
          subst hq
          simp [ByteArray.data_extract]
        unfold strOfNums
        rw [List.map_cons]
        exact (e3 _ _ m' (by rw [List.length_map, List.length_take, List.length_drop]; omega)).symm
      rw [this]
  | succ d ih =>
    intro j k hj hk
    obtain ⟨k, rfl⟩ : ∃ q, k = q + 1 := ⟨k - 1, by omega⟩
    simp only [zoneinfolaw12_DesigsNamesAreSuffixes.l0, hsz]
    have hbt : bt (strOfNums ((l.drop n).take m)) (j : Int) = rd l ((n + j : Nat) : Int) := by
      rw [bt_str _ ((hB.drop n).take m) j (by omega), rd_nat _ j (by omega), rd_nat l (n + j) (by omega)]
      simp
    rw [if_pos (by omega), if_pos (by omega), hbt, if_neg (hnz j (by omega)), w64 (by omega) (by omega), show (j : Int) + 1 = ((j + 1 : Nat) : Int) by omega]
    exact ih (j + 1) k (by omega) (by omega)
theorem DesigsNamesAreSuffixes : zoneinfolaw12_DesigsNamesAreSuffixes.Pure := by
  intro l i w0 w1 w2 w3
  have hB : Byt l := Byt.of w2
  refine ⟨3000, ?_⟩
  generalize hK : (3000 : Nat) = K
  unfold zoneinfolaw12_DesigsNamesAreSuffixes.f
  refine bnd (awake12 _ (by omega)) ?_
  rw [if_pos rfl]
  have hT : zoneinfolaw12_DesigsNamesAreSuffixes.j0 K l i true = some true := by
    obtain ⟨k, rfl⟩ : ∃ m, K = m + 1 := ⟨K - 1, by omega⟩
    simp only [zoneinfolaw12_DesigsNamesAreSuffixes.j0]
    rw [if_pos (by decide)]
    exact bnd (awake12 _ (by omega)) rfl
  by_cases hl : (l.length : Int) > 1000
  · rw [if_pos hl]; exact hT
  rw [if_neg hl]
  refine bnd (rvalid_f l (by omega) K (by omega)) ?_
  by_cases hv : badOf l < 0
  case neg => rw [decide_eq_false hv]; exact hT
  rw [decide_eq_true hv]
  obtain ⟨h1, hz⟩ := valid_end hv
  obtain ⟨k, rfl⟩ : ∃ m, K = m + 3 := ⟨K - 3, by omega⟩
  simp only [zoneinfolaw12_DesigsNamesAreSuffixes.j0]
  rw [if_neg (by decide)]
  by_cases hi : i < 0 ∨ (l.length : Int) ≤ i
  · refine bnd (name_out l i hi) ?_
    dsimp only
    by_cases h0 : i ≥ 0
    · rw [if_pos h0, decide_eq_false (show ¬ i < (l.length : Int) by omega)]
      simp only [zoneinfolaw12_DesigsNamesAreSuffixes.j1]
      rw [if_neg (by decide), if_neg (by decide)]
      decide +kernel
    · rw [if_neg h0]
      simp only [zoneinfolaw12_DesigsNamesAreSuffixes.j1]
      rw [if_neg (by decide), if_neg (by decide)]
      decide +kernel
  · obtain ⟨n, rfl⟩ := Int.eq_ofNat_of_zero_le (show 0 ≤ i by omega)
    obtain ⟨m, hm, e, hzm, hnz⟩ := name_end l hB (l.length - 1 - n) n (by omega) hz
    have hlen : ((l.drop n).take m).length = m := by rw [List.length_take, List.length_drop]; omega
    have hsz : (strOfNums ((l.drop n).take m)).size = m := by rw [strOfNums_size, hlen]
    have hN := name_at l (by omega) n (by omega)
    rw [e] at hN
    refine bnd hN ?_
    dsimp only
    rw [if_pos (by omega), decide_eq_true (show (n : Int) < (l.length : Int) by omega)]
    simp only [zoneinfolaw12_DesigsNamesAreSuffixes.j1, hsz]
    have g1 : ¬ ((n + m : Nat) : Int) ≥ (l.length : Int) := by omega
    have g2 : (0 : Int) ≤ ((n + m : Nat) : Int) := by omega
    have g3 : ((n + m : Nat) : Int) < (l.length : Int) := by omega
    have g4 : (0 : Int) ≤ (n : Int) := by omega
    have g5 : (n : Int) ≤ ((n + m : Nat) : Int) := by omega
    have g6 : ((n + m : Nat) : Int) ≤ (l.length : Int) := by omega
    have g7 : n + m - n = m := by omega
    have hfin := suf_loop l hB (by omega) n m (by omega) hz e hnz m 0 k (by omega) (by omega)
    rw [show ((0 : Nat) : Int) = 0 from rfl] at hfin
    have ew : wrap64 ((n : Int) + (m : Int)) = ((n + m : Nat) : Int) := by rw [w64 (by omega) (by omega)]; omega
    rw [if_neg (by decide), if_pos trivial, ew, if_neg g1, if_pos g2, if_pos g3, if_pos hzm, if_pos g4, if_pos g5, if_pos g6, Int.toNat_natCast, Int.toNat_natCast, List.drop_take, g7]
    simp only [zoneinfolaw12_DesigsNamesAreSuffixes.j2]
    rw [if_neg (by simp)]
    exact hfin
end Go.Proofs.Ytchlggnbgabddaa.Pure
