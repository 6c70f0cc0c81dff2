/- The plain law behind the walk of DesigsBuildThenName. No condition. -/
import Derived.Test.YtchlggnbgabddaaWWords
import Derived.Test.YtchlggnbgabddaaWMore
import Derived.Test.YtchlggnbgabddaaOwn
import Derived.Test.YtchlggnbgabddaaGx15
import Derived.Test.YtchlggnbgabddaaGx27
import Derived.Test.YtchlggnbgabddaaBase
import Derived.Test.YtchlggnbgabddaaBig
import Derived.Test.YtchlggnbgabddaaDes
import Derived.Test.YtchlggnbgabddaaNam
import Derived.Test.YtchlggnbgabddaaVal12
import Derived.Test.YtchlggnbgabddaaBld12
import Derived.Test.YtchlggnbgabddaaSayDesigsBuildThenName
set_option linter.unusedVariables false
set_option linter.unusedSimpArgs false
namespace Go.Proofs.Ytchlggnbgabddaa.Pure
open Go.RowKit Go.Proofs.Ytchlggnbgabddaa.G Go.Proofs.YtchlggnbgabddaaW.PrintWords Go.Proofs.YtchlggnbgabddaaW.PrintLast Go.Proofs.YtchlggnbgabddaaW.PrintMore
theorem toList_eq (l : List ByteArray) (i j : Nat) : ((rdOf ByteArray.empty l (i : Int)).toList = (rdOf ByteArray.empty l (j : Int)).toList) ↔ key l i = key l j := by
  rw [Go.Lib.toList_data, Go.Lib.toList_data]
  exact Iff.rfl
theorem same_beq (l : List ByteArray) (i j : Nat) : ((rdOf ByteArray.empty l (i : Int)).toList == (rdOf ByteArray.empty l (j : Int)).toList) = decide (key l i = key l j) := by
  rw [Bool.eq_iff_iff, beq_iff_eq, decide_eq_true_iff, toList_eq]
theorem tot_bound (l : List ByteArray) (hs : ∀ x ∈ l, x.size ≤ 300) : ∀ n, n ≤ l.length → 0 ≤ tot l n ∧ tot l n ≤ 301 * n := by
  intro n
  induction n with
  | zero => intro _; exact ⟨Int.le_refl 0, Int.le_refl 0⟩
  | succ n ih =>
    intro hn
    have h := ih (by omega)
    have hx := hs _ (rdOf_mem l n (by omega))
    have hx : (nm l n).size ≤ 300 := hx
    rw [tot]
    split <;> omega
theorem name_place (T : List Int) (hT : T.length ≤ 100000) (p : Nat) (x : ByteArray) (r : List Int) (ha : (bytesOf x).all alw = true) (h : T.drop p = bytesOf x ++ 0 :: r) : desigs_Name.f T (p : Int) = some (x, true) := by
  have hp : p < T.length := by
    rcases Nat.lt_or_ge p T.length with g | g
    · exact g
    · rw [List.drop_eq_nil_of_le g] at h
      have := congrArg List.length h
      simp at this
  unfold desigs_Name.f
  rw [if_neg (by omega), if_neg (by omega), if_pos (by omega), Int.toNat_natCast, h, nameOf_stop _ r ha, str_bytesOf]
theorem btn_l1 (l : List ByteArray) (hp : plainOk l = true) {T I : List Int} {M : List (List UInt8 × Int)} (hB : Bn l l.length T M I) (n : Nat) (hn : n < l.length) (G : Nat)
    (hr : ∀ k, G ≤ k → zoneinfolaw12_DesigsBuildThenName.l0 k l T I (tot l (n + 1)) ((n + 1 : Nat) : Int) = some true) :
    ∀ (d j k : Nat), j + d = n → d + G < k → zoneinfolaw12_DesigsBuildThenName.l1 k l T I (tot l n) (n : Int) (seen l n j) (j : Int) = some true := by
  obtain ⟨hl, hs⟩ := plain_size hp
  have hI := hB.len
  intro d
  induction d with
  | zero =>
    intro j k hj hk
    obtain rfl : j = n := by omega
    obtain ⟨k, rfl⟩ : ∃ m, k = m + 1 := ⟨k - 1, by omega⟩
    have h := hr k (by omega)
    simp only [zoneinfolaw12_DesigsBuildThenName.l1]
    rw [if_neg (by omega), w64 (x := (j : Int) + 1) (by omega) (by omega), show (j : Int) + 1 = ((j + 1 : Nat) : Int) by omega]
    have hb := tot_bound l hs j (by omega)
    have hx : (nm l j).size ≤ 300 := hs _ (rdOf_mem l j (by omega))
    rw [tot] at h
    by_cases hc : seen l j j = true
    · rw [if_pos hc, Int.add_zero] at h
      rw [if_pos hc]
      exact h
    · rw [if_neg hc] at h
      rw [if_neg hc, if_pos (by omega), if_pos (by omega), w64 (x := tot l j + _) (by have : rdOf ByteArray.empty l (j : Int) = nm l j := rfl; rw [this]; omega) (by have : rdOf ByteArray.empty l (j : Int) = nm l j := rfl; rw [this]; omega), w64 (by have : rdOf ByteArray.empty l (j : Int) = nm l j := rfl; rw [this]; omega) (by have : rdOf ByteArray.empty l (j : Int) = nm l j := rfl; rw [this]; omega), Int.add_assoc]
      exact h
  | succ d ih =>
    intro j k hj hk
    obtain ⟨k, rfl⟩ : ∃ m, k = m + 1 := ⟨k - 1, by omega⟩
    have h := ih (j + 1) k (by omega) (by omega)
    simp only [zoneinfolaw12_DesigsBuildThenName.l1]
    have hsame := hB.same hp (Nat.le_refl _) (i := n) (k := j) hn (by omega)
    have hz : ((rd I (j : Int) == rd I (n : Int)) != decide (key l j = key l n)) = false := by
      have : (rd I (j : Int) == rd I (n : Int)) = decide (key l j = key l n) := by rw [Bool.eq_iff_iff, beq_iff_eq, decide_eq_true_iff]; exact hsame
      rw [this]; simp
    rw [if_pos (by omega), if_pos (by omega), if_pos (by omega), if_pos (by omega), if_pos (by omega), if_pos (by omega), if_pos (by omega), same_beq, hz, if_neg (by decide), w64 (x := (j : Int) + 1) (by omega) (by omega), show (j : Int) + 1 = ((j + 1 : Nat) : Int) by omega]
    rw [seen] at h
    cases hc : seen l n j with
    | true => rw [hc, Bool.true_or] at h; rw [if_pos rfl]; exact h
    | false => rw [hc, Bool.false_or] at h; rw [if_neg (by decide)]; exact h
theorem btn_l0 (l : List ByteArray) (hp : plainOk l = true) {T I : List Int} {M : List (List UInt8 × Int)} (hB : Bn l l.length T M I) (hT : T.length ≤ 301 * l.length) (T' : List Int) (hT' : 1 ≤ l.length → T' = T) (hfin : ((T'.length : Int) == mx (tot l l.length) 1) = true) :
    ∀ (d n : Nat), n + d = l.length → ∀ k, d * 100 + 1 ≤ k → zoneinfolaw12_DesigsBuildThenName.l0 k l T' I (tot l n) (n : Int) = some true := by
  obtain ⟨hl, hs⟩ := plain_size hp
  have hI := hB.len
  intro d
  induction d with
  | zero =>
    intro n hn k hk
    obtain rfl : n = l.length := by omega
    obtain ⟨k, rfl⟩ : ∃ m, k = m + 1 := ⟨k - 1, by omega⟩
    simp only [zoneinfolaw12_DesigsBuildThenName.l0]
    rw [if_neg (by omega), hfin]
  | succ d ih =>
    intro n hn k hk
    obtain rfl := hT' (by omega)
    obtain ⟨k, rfl⟩ : ∃ m, k = m + 2 := ⟨k - 2, by omega⟩
    simp only [zoneinfolaw12_DesigsBuildThenName.l0]
    obtain ⟨p, r, e1, e2⟩ := hB.place n (by omega)
    rw [if_pos (by omega), if_pos (by omega), if_pos (by omega), e1]
    refine bnd (name_place T' (by omega) p (nm l n) r (plain_alw hp n (by omega)) e2) ?_
    dsimp only
    rw [if_pos rfl, show ((nm l n).toList != (rdOf ByteArray.empty l (n : Int)).toList) = false by unfold nm; simp]
    simp only [zoneinfolaw12_DesigsBuildThenName.j3]
    rw [if_neg (by decide)]
    exact btn_l1 l hp hB n (by omega) (d * 100 + 1) (fun k hk => ih (n + 1) (by omega) k hk) n 0 k (by omega) (by omega)
theorem DesigsBuildThenName : Opn.DesigsBuildThenName := by
  intro l hw
  have hlen : l.length ≤ 9223372036854775807 := by first | exact hw | exact hw.1
  refine ⟨l.length * 305 + 100 * l.length + 30000, ?_⟩
  generalize hK : l.length * 305 + 100 * l.length + 30000 = K
  unfold zoneinfolaw12_DesigsBuildThenName.f
  refine bnd (awake12 _ (by omega)) ?_
  rw [if_pos rfl]
  refine bnd (plain_f l hlen K (by omega)) ?_
  obtain ⟨k, rfl⟩ : ∃ m, K = m + 3 := ⟨K - 3, by omega⟩
  simp only [zoneinfolaw12_DesigsBuildThenName.j0]
  by_cases hp : plainOk l = true
  case neg =>
    rw [Bool.eq_false_iff.2 hp, if_pos (by decide)]
    exact bnd (awake12 _ (by omega)) rfl
  rw [hp, if_neg (by decide)]
  obtain ⟨hl, hs⟩ := plain_size hp
  obtain ⟨T, M, I, hE, hB, hT⟩ := build_inv l hp l.length (Nat.le_refl _)
  have hI := hB.len
  refine bnd (build_f l hE) ?_
  dsimp only
  have hT' : 1 ≤ l.length → (if T.length = 0 then [0] else T) = T := fun h => by
    have := bfirst_pos l hs (by omega) h hE
    rw [if_neg (by omega)]
  have hbd := tot_bound l hs l.length (Nat.le_refl _)
  have hsz := hB.size
  have hval : badOf (if T.length = 0 then [0] else T) < 0 := by
    by_cases h0 : T.length = 0
    · rw [if_pos h0]; decide
    · rw [if_neg h0, valid_of hB.good (by omega) (hB.last (by omega))]; decide
  have hlen2 : (if T.length = 0 then [0] else T).length ≤ 20000 := by
    split
    · simp
    · omega
  have hfin : (((if T.length = 0 then [0] else T).length : Int) == mx (tot l l.length) 1) = true := by
    rw [beq_iff_eq, ← hsz]
    unfold mx
    by_cases h0 : T.length = 0
    · rw [if_pos h0, h0]; decide
    · rw [if_neg h0]; split <;> omega
  generalize (if T.length = 0 then [0] else T) = T' at hT' hval hlen2 hfin
  refine bnd (valid_f T' (by omega) (k + 2) (by omega)) ?_
  rw [decide_eq_true hval, if_pos rfl]
  simp only [zoneinfolaw12_DesigsBuildThenName.j1]
  rw [show ((I.length : Int) != (l.length : Int)) = false by rw [hI]; simp, if_neg (by decide)]
  exact btn_l0 l hp hB hT T' hT' hfin l.length 0 (by omega) (k + 1) (by omega)
end Go.Proofs.Ytchlggnbgabddaa.Pure
