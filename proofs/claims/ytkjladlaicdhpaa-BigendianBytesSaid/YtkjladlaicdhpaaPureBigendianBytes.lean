/- A field of 4 or 8 bytes is composed of its single bytes, and exists exactly if its first and its last byte exist: the plain law behind the walk. No condition. -/
import Derived.Test.YtkjladlaicdhpaaWWords
import Derived.Test.YtkjladlaicdhpaaWMore
import Derived.Test.YtkjladlaicdhpaaOwn
import Derived.Test.YtkjladlaicdhpaaGx15
import Derived.Test.YtkjladlaicdhpaaBase
import Derived.Test.YtkjladlaicdhpaaBig
import Derived.Test.YtkjladlaicdhpaaL01
set_option linter.unusedVariables false
namespace Go.Proofs.Ytkjladlaicdhpaa.Pure
open Go.RowKit Go.Proofs.Ytkjladlaicdhpaa.G Go.Proofs.YtkjladlaicdhpaaW.PrintWords Go.Proofs.YtkjladlaicdhpaaW.PrintLast

theorem field_one (l : List Int) (o : Nat) (h : o < l.length) : fieldOk l (o : Int) 1 = true ∧ fieldV l (o : Int) 1 = rd l (o : Int) := by
  have h1 : fieldOk l (o : Int) 1 = true := by unfold fieldOk; rw [decide_eq_true_iff]; omega
  refine ⟨h1, ?_⟩
  unfold fieldV
  rw [if_pos h1, Int.toNat_natCast, drop_rd l o h, List.take_succ_cons, List.take_zero]
  simp [bv, bvf]
theorem bytes_loop (l : List Int) (hl : Byt l) (hlen : l.length ≤ 1000) (off n : Nat) (hoff : off + n ≤ l.length) (hn : n ≤ 8) (v : Int) : ∀ (d i k : Nat) (x : Int), i + d = n → d + 12 < k → 0 ≤ x → x < 256 ^ i →
    zoneinfolaw01_BigendianBytes.l0 k l off n v x i = some (bvf x ((l.drop (off + i)).take d) == v) := by
  intro d
  induction d with
  | zero =>
    intro i k x hi hk h0 h1
    obtain ⟨k, rfl⟩ : ∃ m, k = m + 1 := ⟨k - 1, by omega⟩
    simp only [zoneinfolaw01_BigendianBytes.l0]
    rw [if_neg (by omega)]; simp [bvf]
  | succ d ih =>
    intro i k x hi hk h0 h1
    obtain ⟨k, rfl⟩ : ∃ m, k = m + 1 := ⟨k - 1, by omega⟩
    simp only [zoneinfolaw01_BigendianBytes.l0]
    have hw : wrap64 ((off : Int) + i) = ((off + i : Nat) : Int) := by rw [w64 (by omega) (by omega)]; omega
    have hb := hl.rd ((off + i : Nat) : Int)
    have h7 : (256 : Int) ^ i ≤ 256 ^ 7 := pow_le8 (by omega)
    obtain ⟨g1, g2⟩ := field_one l (off + i) (by omega)
    rw [if_pos (by omega), hw]
    refine bnd (uint_f l hl (by omega) _ (by omega) 1 (by omega) _ (by omega)) ?_
    dsimp only
    rw [g1, g2, if_pos rfl, if_neg (by omega), u64w (x := x * 256) (by omega) (by omega), u64w (by omega) (by omega), w64 (by omega) (by omega),
      show (i : Int) + 1 = ((i + 1 : Nat) : Int) by omega, ih (i + 1) k _ (by omega) (by omega) (by omega) (by rw [Int.pow_succ]; omega)]
    rw [drop_rd l (off + i) (by omega), List.take_succ_cons, show off + (i + 1) = off + i + 1 by omega]
    rfl
theorem bytes_1 (l : List Int) (hl : Byt l) (hlen : l.length ≤ 1000) (off : Int) (ho : -1000 ≤ off ∧ off ≤ 2000) (n : Nat) (h1 : 1 ≤ n) (hn : n ≤ 8) (k : Nat) (hk : 40 ≤ k) :
    zoneinfolaw01_BigendianBytes.j1 (k + 1 + 1) l off n = some true := by
  simp only [zoneinfolaw01_BigendianBytes.j1]
  rw [w64 (x := off + n) (by omega) (by omega), w64 (x := off + n - 1) (by omega) (by omega)]
  refine bnd (uint_f l hl (by omega) off (by omega) n hn _ (by omega)) ?_
  refine bnd (uint_f l hl (by omega) off (by omega) 1 (by omega) _ (by omega)) ?_
  refine bnd (uint_f l hl (by omega) (off + n - 1) (by omega) 1 (by omega) _ (by omega)) ?_
  dsimp only
  have key : (if fieldOk l off 1 = true then fieldOk l (off + n - 1) 1 else false) = fieldOk l off n := by
    rw [Bool.eq_iff_iff]
    unfold fieldOk
    by_cases h : 0 ≤ off ∧ off + ((1 : Nat) : Int) ≤ l.length
    · rw [if_pos (decide_eq_true h), decide_eq_true_iff, decide_eq_true_iff]; omega
    · rw [if_neg (by rw [decide_eq_true_iff]; exact h), decide_eq_true_iff]; constructor
      · intro h'; cases h'
      · intro h'; exact absurd (show 0 ≤ off ∧ off + ((1 : Nat) : Int) ≤ l.length by omega) h
  have fin : zoneinfolaw01_BigendianBytes.j2 (k + 1) l off n (fieldV l off n) (fieldOk l off n) false = some true := by
    simp only [zoneinfolaw01_BigendianBytes.j2]
    rw [if_neg (by decide)]
    by_cases h : fieldOk l off n = true
    · rw [if_pos h]
      have h' := h
      unfold fieldOk at h'
      rw [decide_eq_true_iff] at h'
      obtain ⟨o, rfl⟩ := Int.eq_ofNat_of_zero_le h'.1
      have := bytes_loop l hl hlen o n (by omega) hn (fieldV l o n) n 0 k 0 (by omega) (by omega) (by omega) (by simp)
      rw [show ((0 : Nat) : Int) = 0 from rfl] at this
      rw [this]
      unfold fieldV
      rw [if_pos h, Int.toNat_natCast, Nat.add_zero]
      simp [bv]
    · rw [if_neg h]
      unfold fieldV
      rw [if_neg h]; rfl
  by_cases h : fieldOk l off 1 = true
  · rw [if_pos h] at key ⊢
    rw [key]; simpa using fin
  · rw [if_neg h] at key ⊢
    rw [← key]
    rw [← key] at fin
    simpa using fin
theorem BigendianBytes : zoneinfolaw01_BigendianBytes.Pure := by
  intro l a1 a2 h1 h2 h3 h4
  have hl := Byt.of h3
  have w1 := wf_i64 h4
  refine ⟨l.length + 50 + 1 + 1 + 1, ?_⟩
  unfold zoneinfolaw01_BigendianBytes.f
  have aw := awake01 (l.length + 50 + 1 + 1) (by omega)
  have out : zoneinfolaw01_BigendianBytes.j0 (l.length + 50 + 1 + 1 + 1) l a1 a2 true = some true := by
    simp only [zoneinfolaw01_BigendianBytes.j0, if_true]
    exact bnd aw rfl
  refine bnd (awake01 _ (by omega)) ?_
  rw [if_pos rfl]
  by_cases hb : (l.length : Int) > 1000
  · rw [if_pos hb]; exact out
  · rw [if_neg hb]
    by_cases hc : a1 < -1000
    · rw [if_pos hc]; exact out
    · rw [if_neg hc]
      by_cases hd : a1 > 2000
      · rw [decide_eq_true hd]; exact out
      · rw [decide_eq_false hd]
        simp only [zoneinfolaw01_BigendianBytes.j0]
        rw [if_neg (by decide)]
        cases a2 with
        | true => rw [if_pos rfl]; exact bytes_1 l hl (by omega) a1 (by omega) 8 (by omega) (by omega) _ (by omega)
        | false => rw [if_neg (by decide)]; exact bytes_1 l hl (by omega) a1 (by omega) 4 (by omega) (by omega) _ (by omega)
end Go.Proofs.Ytkjladlaicdhpaa.Pure
