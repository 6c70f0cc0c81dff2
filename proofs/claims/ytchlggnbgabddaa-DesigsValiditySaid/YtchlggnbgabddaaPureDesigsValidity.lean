/- The plain law behind the walk of DesigsValidity. No condition. -/
import Derived.Test.YtchlggnbgabddaaWWords
import Derived.Test.YtchlggnbgabddaaWMore
import Derived.Test.YtchlggnbgabddaaOwn
import Derived.Test.YtchlggnbgabddaaGx29
import Derived.Test.YtchlggnbgabddaaGx4
import Derived.Test.YtchlggnbgabddaaBase
import Derived.Test.YtchlggnbgabddaaBig
import Derived.Test.YtchlggnbgabddaaDes
import Derived.Test.YtchlggnbgabddaaVal12
set_option linter.unusedVariables false
set_option linter.unusedSimpArgs false
namespace Go.Proofs.Ytchlggnbgabddaa.Pure
open Go.RowKit Go.Proofs.Ytchlggnbgabddaa.G Go.Proofs.YtchlggnbgabddaaW.PrintWords Go.Proofs.YtchlggnbgabddaaW.PrintLast Go.Proofs.YtchlggnbgabddaaW.PrintMore
theorem val_j3 (k : Nat) (hk : 2000 ≤ k) (both cut x : List Int) (op : Bool) (want : Int) (hb : both.length ≤ 1000) (hc : cut.length ≤ 1000) (hx : x.length ≤ 1000) (h1 : badOf both < 0) (h2 : decide (badOf cut < 0) = !op) (h3 : op = true → badOf cut = (cut.length : Int)) (h4 : badOf x = want) : zoneinfolaw12_DesigsValidity.j3 k both cut op x want = some true := by
  obtain ⟨k, rfl⟩ : ∃ m, k = m + 1 := ⟨k - 1, by omega⟩
  simp only [zoneinfolaw12_DesigsValidity.j3]
  refine bnd (valid_f both (by omega) k (by omega)) ?_
  rw [decide_eq_true h1, if_pos rfl]
  refine bnd (valid_f cut (by omega) k (by omega)) ?_
  rw [h2, if_pos (by simp)]
  have hlast : ((desigs_Bad.f k x).bind fun t278 => some (t278 == want)) = some true := by
    refine bnd (bad_f x (by omega) k (by omega)) ?_
    rw [h4]; simp
  cases op with
  | false => rw [if_neg (by decide)]; exact hlast
  | true =>
    rw [if_pos rfl]
    refine bnd (bad_f cut (by omega) k (by omega)) ?_
    rw [if_pos (h3 rfl)]
    exact hlast
/-- The whole, with one byte set. -/
theorem bad_set (l : List Int) (hv : AllOk l) (h1 : 1 ≤ l.length) (hz : rd l ((l.length : Int) - 1) = 0) (n : Nat) (hn : n < l.length) (c : Int) : badOf (l.set n c) = if ok0 c = true then (if n = l.length - 1 ∧ c ≠ 0 then (l.length : Int) else -1) else (n : Int) := by
  have hlen : (l.set n c).length = l.length := List.length_set
  by_cases hc : ok0 c = true
  · rw [if_pos hc]
    have hA : AllOk (l.set n c) := AllOk.of fun j hj => by
      rw [hlen] at hj
      rw [rd_set l n c j hj]
      split
      · exact hc
      · exact hv.rd j hj
    rw [badOf_good hA, hlen, if_neg (by omega), show (l.length : Int) - 1 = ((l.length - 1 : Nat) : Int) by omega, rd_set l n c _ (by omega)]
    rw [show (l.length : Int) - 1 = ((l.length - 1 : Nat) : Int) by omega] at hz
    by_cases e : l.length - 1 = n
    · rw [if_pos e]
      by_cases h0 : c = 0
      · rw [if_pos h0, if_neg (fun h => h.2 h0)]
      · rw [if_neg h0, if_pos ⟨e.symm, h0⟩]
    · rw [if_neg e, if_pos hz, if_neg (fun h => e h.1.symm)]
  · rw [if_neg hc]
    refine badOf_first (by omega) ?_ fun j hj => ?_
    · rw [rd_set l n c n hn, if_pos rfl]; exact Bool.eq_false_iff.2 hc
    · rw [rd_set l n c j (by omega), if_neg (by omega)]; exact hv.rd j (by omega)
theorem val_j1 (k : Nat) (hk : 2005 ≤ k) (both cut : List Int) (op : Bool) (a2 c : Int) (ha : 0 ≤ a2 ∧ a2 < 65536) (hb : both.length ≤ 1000) (hb1 : 1 ≤ both.length) (hA : AllOk both) (hz : rd both ((both.length : Int) - 1) = 0) (hc : cut.length ≤ 1000) (h2 : decide (badOf cut < 0) = !op) (h3 : op = true → badOf cut = (cut.length : Int)) : zoneinfolaw12_DesigsValidity.j1 k a2 c both cut op = some true := by
  obtain ⟨k, rfl⟩ : ∃ m, k = m + 2 := ⟨k - 2, by omega⟩
  simp only [zoneinfolaw12_DesigsValidity.j1]
  refine bnd rfl ?_
  rw [if_pos (by simp; omega)]
  refine bnd rfl ?_
  rw [List.nil_append, if_neg (by omega), w64 (x := a2) (by omega) (by omega)]
  obtain ⟨a, rfl⟩ := Int.eq_ofNat_of_zero_le ha.1
  have e : Int.tmod (a : Int) (both.length : Int) = ((a % both.length : Nat) : Int) := Int.ofNat_tmod a both.length
  have hlt : a % both.length < both.length := Nat.mod_lt _ (by omega)
  rw [e]
  generalize hn : a % both.length = n at hlt
  rw [if_pos (by omega), if_pos (by omega)]
  refine bnd rfl ?_
  rw [Int.toNat_natCast]
  have hbad := bad_set both hA hb1 hz n hlt c
  have hlen : (both.set n c).length = both.length := List.length_set
  have hfin : ∀ g, g = ok0 c → zoneinfolaw12_DesigsValidity.j2 (k + 1) c both cut op (both.set n c) (n : Int) g = some true := by
    intro g hg
    simp only [zoneinfolaw12_DesigsValidity.j2, hlen]
    rw [w64 (x := (both.length : Int) - 1) (by omega) (by omega)]
    have hj := fun w hw => val_j3 k (by omega) both cut (both.set n c) op w hb hc (by omega) (by rw [valid_of hA hb1 hz]; decide) h2 h3 hw
    subst hg
    by_cases hc : ok0 c = true
    · rw [if_pos hc] at hbad ⊢
      by_cases e1 : (n : Int) = (both.length : Int) - 1
      · rw [if_pos e1]
        by_cases e0 : c = 0
        · rw [if_pos e0]; refine hj _ ?_; rw [hbad, if_neg (fun h => h.2 e0)]
        · rw [if_neg e0]; refine hj _ ?_; rw [hbad, if_pos ⟨by omega, e0⟩]
      · rw [if_neg e1]; refine hj _ ?_; rw [hbad, if_neg (fun h => e1 (by omega))]
    · rw [if_neg hc] at hbad ⊢
      exact hj _ hbad
  by_cases h0 : c = 0
  · rw [if_pos h0]; refine hfin _ ?_; rw [h0]; rfl
  · rw [if_neg h0]
    refine bnd (rallowed_f c) (hfin _ ?_)
    unfold ok0; rw [decide_eq_false h0, Bool.false_or]
theorem DesigsValidity : zoneinfolaw12_DesigsValidity.Pure := by
  intro a b a2 c w0 w1 w2 w3 w4 w5 w6 w7
  have ha2 := wf_u16 w6
  refine ⟨3000, ?_⟩
  generalize hK : (3000 : Nat) = K
  unfold zoneinfolaw12_DesigsValidity.f
  refine bnd (awake12 _ (by omega)) ?_
  rw [if_pos rfl]
  have hT : zoneinfolaw12_DesigsValidity.j0 K a b a2 c true = some true := by
    obtain ⟨k, rfl⟩ : ∃ m, K = m + 1 := ⟨K - 1, by omega⟩
    simp only [zoneinfolaw12_DesigsValidity.j0]
    rw [if_pos trivial]
    exact bnd (awake12 _ (by omega)) rfl
  by_cases hl : (a.length : Int) > 500
  · rw [if_pos hl]; exact hT
  rw [if_neg hl]
  by_cases hl2 : (b.length : Int) > 500
  · rw [if_pos hl2]; exact hT
  rw [if_neg hl2]
  refine bnd (rvalid_f a (by omega) K (by omega)) ?_
  by_cases hv : badOf a < 0
  case neg => rw [decide_eq_false hv, if_neg (by decide)]; exact hT
  rw [decide_eq_true hv, if_pos rfl]
  refine bnd (rvalid_f b (by omega) K (by omega)) ?_
  by_cases hu : badOf b < 0
  case neg => rw [decide_eq_false hu]; exact hT
  rw [decide_eq_true hu]
  obtain ⟨hA, hA1, hAz⟩ := valid_all hv
  obtain ⟨hB, hB1, hBz⟩ := valid_all hu
  obtain ⟨k, rfl⟩ : ∃ m, K = m + 1 := ⟨K - 1, by omega⟩
  simp only [zoneinfolaw12_DesigsValidity.j0]
  rw [if_neg (by decide)]
  refine bnd rfl ?_
  rw [if_pos (by simp; omega)]
  refine bnd rfl ?_
  rw [List.nil_append, if_pos (by omega)]
  refine bnd rfl ?_
  rw [w64 (x := (a.length : Int) - 1) (by omega) (by omega), if_pos (by omega), if_pos (by omega)]
  refine bnd rfl ?_
  rw [show ((a.length : Int) - 1).toNat = a.length - 1 by omega]
  have hcl : (a.take (a.length - 1)).length = a.length - 1 := by rw [List.length_take]; omega
  have hcA : AllOk (a.take (a.length - 1)) := hA.take _
  have hcb := badOf_good hcA
  have hz : rd (a ++ b) (((a ++ b).length : Int) - 1) = 0 := by
    rw [rd_append_right _ _ _ (by rw [List.length_append]; omega), ← hBz]
    congr 1
    rw [List.length_append]
    omega
  generalize a.take (a.length - 1) = cut at hcl hcA hcb ⊢
  have hlen : (a ++ b).length ≤ 1000 := by rw [List.length_append]; omega
  have hlen1 : 1 ≤ (a ++ b).length := by rw [List.length_append]; omega
  by_cases h0 : cut.length = 0
  · rw [if_pos (by omega)]
    rw [if_pos h0] at hcb
    refine val_j1 k (by omega) (a ++ b) cut true a2 c ha2 hlen hlen1 (hA.append hB) hz (by omega) ?_ (fun _ => hcb)
    rw [hcb]
    exact decide_eq_false (by omega)
  · rw [if_neg (by omega), w64 (x := (cut.length : Int) - 1) (by omega) (by omega), if_pos (by omega), if_pos (by omega)]
    rw [if_neg h0] at hcb
    by_cases hq : rd cut ((cut.length : Int) - 1) = 0
    · rw [if_pos hq] at hcb
      rw [hq]
      refine val_j1 k (by omega) (a ++ b) cut _ a2 c ha2 hlen hlen1 (hA.append hB) hz (by omega) ?_ (fun h => absurd h (by decide))
      rw [hcb]
      rfl
    · rw [if_neg hq] at hcb
      have hne : (rd cut ((cut.length : Int) - 1) != 0) = true := bne_iff_ne.2 hq
      rw [hne]
      refine val_j1 k (by omega) (a ++ b) cut true a2 c ha2 hlen hlen1 (hA.append hB) hz (by omega) ?_ (fun _ => hcb)
      rw [hcb]
      exact decide_eq_false (by omega)
end Go.Proofs.Ytchlggnbgabddaa.Pure
