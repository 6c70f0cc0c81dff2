/- What Build has laid behind n names: a valid table, each name at its place, as long as the distinct names. -/
import Derived.Test.YtchlggnbgabddaaWWords
import Derived.Test.YtchlggnbgabddaaWMore
import Derived.Test.YtchlggnbgabddaaOwn
import Derived.Test.YtchlggnbgabddaaBase
import Derived.Test.YtchlggnbgabddaaBig
import Derived.Test.YtchlggnbgabddaaDes
import Derived.Test.YtchlggnbgabddaaNam
import Derived.Test.YtchlggnbgabddaaVal12
set_option linter.unusedVariables false
set_option linter.unusedSimpArgs false
namespace Go.Proofs.Ytchlggnbgabddaa.Pure
open Go.RowKit Go.Proofs.Ytchlggnbgabddaa.G Go.Proofs.YtchlggnbgabddaaW.PrintWords Go.Proofs.YtchlggnbgabddaaW.PrintLast Go.Proofs.YtchlggnbgabddaaW.PrintMore
def nm (l : List ByteArray) (n : Nat) : ByteArray := rdOf ByteArray.empty l (n : Int)
def key (l : List ByteArray) (n : Nat) : List UInt8 := (nm l n).data.toList
/-- Whether one of the first k names is the i-th. -/
def seen (l : List ByteArray) (i : Nat) : Nat → Bool
  | 0 => false
  | k + 1 => seen l i k || decide (key l k = key l i)
/-- The length of the distinct ones among the first n names, with their ends. -/
def tot (l : List ByteArray) : Nat → Int
  | 0 => 0
  | n + 1 => tot l n + if seen l n n = true then 0 else ((nm l n).size : Int) + 1
theorem seen_iff (l : List ByteArray) (i : Nat) : ∀ k, seen l i k = true ↔ ∃ j, j < k ∧ key l j = key l i
  | 0 => ⟨fun h => Bool.noConfusion h, fun ⟨j, h, _⟩ => absurd h (Nat.not_lt_zero j)⟩
  | k + 1 => by
    rw [seen, Bool.or_eq_true, seen_iff l i k, decide_eq_true_iff]
    constructor
    · rintro (⟨j, h, e⟩ | e)
      · exact ⟨j, by omega, e⟩
      · exact ⟨k, by omega, e⟩
    · rintro ⟨j, h, e⟩
      by_cases hj : j = k
      · subst hj; exact .inr e
      · exact .inl ⟨j, by omega, e⟩
theorem bytesOf_key {x y : ByteArray} : bytesOf x = bytesOf y ↔ x.data.toList = y.data.toList := by
  constructor
  · intro h
    have h2 : (strOfNums (bytesOf x)).data.toList = (strOfNums (bytesOf y)).data.toList := by rw [h]
    rw [strOfNums_data, strOfNums_data] at h2
    unfold bytesOf at h2
    rw [List.map_map, List.map_map] at h2
    have hid : ((fun n : Int => UInt8.ofNat n.toNat) ∘ fun b : UInt8 => (b.toNat : Int)) = id := by funext b; simp
    rw [hid, List.map_id, List.map_id] at h2
    exact h2
  · intro h
    unfold bytesOf
    rw [h]
theorem str_bytesOf (x : ByteArray) : strOfNums (bytesOf x) = x := by
  apply Go.WideShapes.bytes_inj
  rw [strOfNums_data]
  unfold bytesOf
  rw [List.map_map]
  conv => rhs; rw [← List.map_id x.data.toList]
  refine List.map_congr_left fun b _ => ?_
  simp
theorem alw_ne {c : Int} (h : alw c = true) : c ≠ 0 ∧ 0 ≤ c ∧ c < 256 := by
  unfold alw at h
  have := of_decide_eq_true h
  omega
theorem nulAt_alw {c : Int} (h : alw c = true) : nulAt c = false := by
  obtain ⟨h1, h2, h3⟩ := alw_ne h
  obtain ⟨n, rfl⟩ := Int.eq_ofNat_of_zero_le h2
  unfold nulAt
  rw [Int.toNat_natCast, beq_eq_false_iff_ne]
  intro e
  have := congrArg UInt8.toNat e
  simp at this
  omega
theorem nameOf_stop : ∀ (a r : List Int), a.all alw = true → nameOf (a ++ 0 :: r) = a
  | [], r, _ => by unfold nameOf; rw [List.nil_append, List.takeWhile_cons_of_neg (by decide)]
  | c :: a, r, h => by
    rw [List.all_cons, Bool.and_eq_true] at h
    have ih := nameOf_stop a r h.2
    unfold nameOf at ih ⊢
    rw [List.cons_append, List.takeWhile_cons_of_pos (by rw [nulAt_alw h.1]; rfl), ih]
theorem plain_alw {l : List ByteArray} (h : plainOk l = true) (n : Nat) (hn : n < l.length) : (bytesOf (nm l n)).all alw = true := by
  unfold plainOk at h
  rw [Bool.and_eq_true, List.all_eq_true] at h
  have := h.1 _ (rdOf_mem l n hn)
  unfold nameOk at this
  rw [Bool.and_eq_true] at this
  exact this.2
theorem ok_alw {c : Int} (h : alw c = true) : ok0 c = true := by unfold ok0; rw [h, Bool.or_true]
theorem rd_snoc (I : List Int) (v : Int) : rd (I ++ [v]) (I.length : Int) = v := by
  rw [rd_append_right _ _ _ (by omega), show (I.length : Int) - I.length = 0 by omega]
  rfl
structure Bn (l : List ByteArray) (n : Nat) (T : List Int) (M : List (List UInt8 × Int)) (I : List Int) : Prop where
  len : I.length = n
  at_ : ∀ j, j < n → metAt M (key l j) = some (rd I (j : Int))
  from_ : ∀ s v, metAt M s = some v → ∃ j, j < n ∧ key l j = s
  good : AllOk T
  last : 1 ≤ T.length → rd T ((T.length : Int) - 1) = 0
  place : ∀ j, j < n → ∃ (p : Nat) (r : List Int), rd I (j : Int) = (p : Int) ∧ T.drop p = bytesOf (nm l j) ++ 0 :: r
  size : (T.length : Int) = tot l n
theorem Bn.zero (l : List ByteArray) : Bn l 0 [] [] [] := ⟨rfl, fun j h => absurd h (Nat.not_lt_zero j), fun s v h => (by cases h), fun x h => (by cases h), fun h => (by simp at h), fun j h => absurd h (Nat.not_lt_zero j), rfl⟩
theorem Bn.seen_of {l : List ByteArray} {n : Nat} {T : List Int} {M : List (List UInt8 × Int)} {I : List Int} (h : Bn l n T M I) {v : Int} (hv : metAt M (key l n) = some v) : seen l n n = true := by
  obtain ⟨j, hj, e⟩ := h.from_ _ _ hv
  exact (seen_iff l n n).2 ⟨j, hj, e⟩
theorem Bn.seen_not {l : List ByteArray} {n : Nat} {T : List Int} {M : List (List UInt8 × Int)} {I : List Int} (h : Bn l n T M I) (hv : metAt M (key l n) = none) : seen l n n = false := by
  cases hs : seen l n n with
  | false => rfl
  | true =>
    obtain ⟨j, hj, e⟩ := (seen_iff l n n).1 hs
    have := h.at_ j hj
    rw [e, hv] at this
    cases this
theorem Bn.step_some {l : List ByteArray} {n : Nat} {T : List Int} {M : List (List UInt8 × Int)} {I : List Int} (h : Bn l n T M I) {v : Int} (hv : metAt M (key l n) = some v) : Bn l (n + 1) T M (I ++ [v]) := by
  obtain ⟨j0, hj0, e0⟩ := h.from_ _ _ hv
  have hl := h.len
  have hv0 : rd I (j0 : Int) = v := by
    have h1 := h.at_ j0 hj0
    rw [e0, hv] at h1
    exact (Option.some.inj h1).symm
  refine ⟨by simp [hl], fun j hj => ?_, fun s v' hs => ?_, h.good, h.last, fun j hj => ?_, ?_⟩
  · by_cases e : j = n
    · subst e; rw [hv, ← hl, rd_snoc]
    · rw [rd_append_left _ _ _ (by omega) (by omega)]; exact h.at_ j (by omega)
  · obtain ⟨j, hj, e⟩ := h.from_ s v' hs
    exact ⟨j, by omega, e⟩
  · by_cases e : j = n
    · subst e
      obtain ⟨p, r, e1, e2⟩ := h.place j0 hj0
      refine ⟨p, r, ?_, ?_⟩
      · rw [← hl, rd_snoc, ← hv0, e1]
      · rw [e2]
        congr 1
        exact bytesOf_key.2 e0
    · obtain ⟨p, r, e1, e2⟩ := h.place j (by omega)
      exact ⟨p, r, by rw [rd_append_left _ _ _ (by omega) (by omega)]; exact e1, e2⟩
  · rw [tot, h.seen_of hv, if_pos rfl, h.size, Int.add_zero]
theorem Bn.step_none {l : List ByteArray} {n : Nat} {T : List Int} {M : List (List UInt8 × Int)} {I : List Int} (h : Bn l n T M I) (hv : metAt M (key l n) = none) (ha : (bytesOf (nm l n)).all alw = true) : Bn l (n + 1) (T ++ bytesOf (nm l n) ++ [0]) ((key l n, (T.length : Int)) :: M) (I ++ [(T.length : Int)]) := by
  have hl := h.len
  have hb := bytesOf_length (nm l n)
  refine ⟨by simp [hl], fun j hj => ?_, fun s v' hs => ?_, ?_, fun _ => ?_, fun j hj => ?_, ?_⟩
  · rw [metAt_cons]
    by_cases e : j = n
    · subst e; rw [if_pos rfl, ← hl, rd_snoc]
    · have hj' := h.at_ j (by omega)
      rw [if_neg (fun x => by rw [x, hj'] at hv; cases hv), rd_append_left _ _ _ (by omega) (by omega)]
      exact hj'
  · rw [metAt_cons] at hs
    by_cases e : key l n = s
    · exact ⟨n, by omega, e⟩
    · rw [if_neg e] at hs
      obtain ⟨j, hj, e'⟩ := h.from_ s v' hs
      exact ⟨j, by omega, e'⟩
  · refine (h.good.append fun x hx => ok_alw (List.all_eq_true.1 ha x hx)).append fun x hx => ?_
    rw [List.mem_singleton.1 hx]
    rfl
  · have e : (((T ++ bytesOf (nm l n) ++ [0]).length : Nat) : Int) - 1 = ((T ++ bytesOf (nm l n)).length : Int) := by simp only [List.length_append, List.length_cons, List.length_nil]; omega
    rw [e, rd_snoc]
  · by_cases e : j = n
    · subst e
      refine ⟨T.length, [], by rw [← hl, rd_snoc], ?_⟩
      rw [List.append_assoc, List.drop_left]
    · obtain ⟨p, r, e1, e2⟩ := h.place j (by omega)
      have hp : p ≤ T.length := by
        rcases Nat.lt_or_ge T.length p with g | g
        · rw [List.drop_eq_nil_of_le (by omega)] at e2
          have := congrArg List.length e2
          simp at this
        · exact g
      refine ⟨p, r ++ (bytesOf (nm l n) ++ [0]), by rw [rd_append_left _ _ _ (by omega) (by omega)]; exact e1, ?_⟩
      rw [List.append_assoc, List.drop_append_of_le_length hp, e2, List.append_assoc, List.cons_append]
  · rw [tot, h.seen_not hv, if_neg (by decide), ← h.size]
    simp only [List.length_append, hb, List.length_cons, List.length_nil]
    omega
theorem build_inv (l : List ByteArray) (h : plainOk l = true) : ∀ n, n ≤ l.length → ∃ T M I, bfirst l n = some (T, M, I) ∧ Bn l n T M I ∧ T.length ≤ 301 * n := by
  obtain ⟨hl, hs⟩ := plain_size h
  intro n
  induction n with
  | zero => intro _; exact ⟨[], [], [], rfl, Bn.zero l, by simp⟩
  | succ n ih =>
    intro hn
    obtain ⟨T, M, I, e, hB, hT⟩ := ih (by omega)
    have hI := hB.len
    have hx : (nm l n).size ≤ 300 := hs _ (rdOf_mem l n (by omega))
    have ha := plain_alw h n (by omega)
    have hlen := bytesOf_length (nm l n)
    have hst : bfirst l (n + 1) = bst1 (T, M, I) (nm l n) := by rw [bfirst, e, Option.bind_some]; rfl
    rw [hst]
    unfold bst1
    rw [if_pos ⟨by omega, by simp only; omega, by simp only; omega⟩]
    dsimp only
    cases hm : metAt M (nm l n).data.toList with
    | some v => exact ⟨_, _, _, rfl, hB.step_some hm, by omega⟩
    | none => exact ⟨_, _, _, rfl, hB.step_none hm ha, by simp only [List.length_append, hlen, List.length_cons, List.length_nil]; omega⟩
/-- Two names stand at one place just where they are one name. -/
theorem Bn.same {l : List ByteArray} {n : Nat} {T : List Int} {M : List (List UInt8 × Int)} {I : List Int} (h : Bn l n T M I) (hp : plainOk l = true) (hn : n ≤ l.length) {i k : Nat} (hi : i < n) (hk : k < n) : rd I (k : Int) = rd I (i : Int) ↔ key l k = key l i := by
  constructor
  · intro e
    obtain ⟨p, r, e1, e2⟩ := h.place i hi
    obtain ⟨q, s, g1, g2⟩ := h.place k hk
    obtain rfl : p = q := by omega
    have a1 := nameOf_stop _ r (plain_alw hp i (by omega))
    have a2 := nameOf_stop _ s (plain_alw hp k (by omega))
    rw [← e2] at a1
    rw [← g2] at a2
    exact bytesOf_key.1 (a2.symm.trans a1)
  · intro e
    have h1 := h.at_ i hi
    have h2 := h.at_ k hk
    rw [e, h1] at h2
    exact (Option.some.inj h2).symm
end Go.Proofs.Ytchlggnbgabddaa.Pure
