/- Cursors: what the functions of cursor and of its reference answer, in plain lists. -/
import Derived.Test.YtjpgfalejadblaaWWords
import Derived.Test.YtjpgfalejadblaaWMore
import Derived.Test.YtjpgfalejadblaaOwn
import Derived.Test.YtjpgfalejadblaaGx11
import Derived.Test.YtjpgfalejadblaaGx12
import Derived.Test.YtjpgfalejadblaaGx13
import Derived.Test.YtjpgfalejadblaaGx14
import Derived.Test.YtjpgfalejadblaaGx16
import Derived.Test.YtjpgfalejadblaaGx17
import Derived.Test.YtjpgfalejadblaaGx2
import Derived.Test.YtjpgfalejadblaaGx3
import Derived.Test.YtjpgfalejadblaaGx4
import Derived.Test.YtjpgfalejadblaaGx5
import Derived.Test.YtjpgfalejadblaaGx8
import Derived.Test.YtjpgfalejadblaaGx9
import Derived.Test.YtjpgfalejadblaaBase
import Derived.Test.YtjpgfalejadblaaBig
set_option linter.unusedVariables false
set_option linter.unusedSimpArgs false
namespace Go.Proofs.Ytjpgfalejadblaa.Pure
open Go.RowKit Go.Proofs.Ytjpgfalejadblaa.G Go.Proofs.YtjpgfalejadblaaW.PrintWords Go.Proofs.YtjpgfalejadblaaW.PrintLast Go.Proofs.YtjpgfalejadblaaW.PrintMore

section
variable {l : List Int} {p e a n : Int}
theorem rest_ok (hp : 0 ≤ p ∧ p ≤ l.length) (hl : l.length ≤ 4611686018427387904) (he : e = 0) : cursor_Rest.f l p e a = some ((l.length : Int) - p) := by
  unfold cursor_Rest.f
  rw [if_pos he, w64 (by omega) (by omega)]
theorem rest_err (he : e ≠ 0) : cursor_Rest.f l p e a = some 0 := by
  unfold cursor_Rest.f
  rw [if_neg he]
theorem fail_ok (why at_ : Int) (he : e = 0) (hw : why ≠ 0) : cursor_Fail.f l p e a why at_ = some (l, p, why, at_) := by
  unfold cursor_Fail.f
  rw [if_pos he, if_neg hw]
theorem fail_err (why at_ : Int) (he : e ≠ 0) : cursor_Fail.f l p e a why at_ = some (l, p, e, a) := by
  unfold cursor_Fail.f
  rw [if_neg he]
theorem adv_err (he : e ≠ 0) : cursor_advance.f l p e a n = some (l, p, e, a, false) := by
  unfold cursor_advance.f
  rw [if_neg he]
theorem adv_short (hp : 0 ≤ p ∧ p ≤ l.length) (hl : l.length ≤ 4611686018427387904) (he : e = 0) (hn : n < 0 ∨ (l.length : Int) - p < n) : cursor_advance.f l p e a n = some (l, p, 1, (l.length : Int), false) := by
  unfold cursor_advance.f
  rw [if_pos he]
  by_cases h : n < 0
  · rw [if_pos h]
    exact bnd (fail_ok _ _ he (by decide)) rfl
  · rw [if_neg h]
    refine bnd (rest_ok hp hl he) ?_
    rw [if_pos (by omega)]
    exact bnd (fail_ok _ _ he (by decide)) rfl
theorem adv_ok (hp : 0 ≤ p ∧ p ≤ l.length) (hl : l.length ≤ 4611686018427387904) (he : e = 0) (h0 : 0 ≤ n) (hn : n ≤ (l.length : Int) - p) : cursor_advance.f l p e a n = some (l, p + n, e, a, true) := by
  unfold cursor_advance.f
  rw [if_pos he, if_neg (by omega)]
  refine bnd (rest_ok hp hl he) ?_
  rw [if_neg (by omega), w64 (by omega) (by omega)]
theorem take_err (he : e ≠ 0) : cursor_Take.f l p e a n = some ([], l, p, e, a) := by
  unfold cursor_Take.f
  refine bnd (adv_err he) ?_
  dsimp only
  rw [if_neg (by decide)]
theorem take_short (hp : 0 ≤ p ∧ p ≤ l.length) (hl : l.length ≤ 4611686018427387904) (he : e = 0) (hn : n < 0 ∨ (l.length : Int) - p < n) : cursor_Take.f l p e a n = some ([], l, p, 1, (l.length : Int)) := by
  unfold cursor_Take.f
  refine bnd (adv_short hp hl he hn) ?_
  dsimp only
  rw [if_neg (by decide)]
theorem take_ok (hp : 0 ≤ p ∧ p ≤ l.length) (hl : l.length ≤ 140737488351232) (he : e = 0) (h0 : 0 ≤ n) (hn : n ≤ (l.length : Int) - p) : cursor_Take.f l p e a n = some ((l.drop p.toNat).take n.toNat, l, p + n, e, a) := by
  unfold cursor_Take.f
  refine bnd (adv_ok hp (by omega) he h0 hn) ?_
  dsimp only
  rw [if_pos rfl]
  refine bnd rfl ?_
  rw [if_pos hp.1, if_pos (by omega), if_pos (by omega)]
  refine bnd rfl ?_
  rw [if_pos (by rw [List.length_drop, List.length_take]; simp; omega), List.nil_append, List.drop_take, show (p + n).toNat - p.toNat = n.toNat by omega]
theorem cuint_err (he : e ≠ 0) (k : Nat) : cursor_Uint.f k l p e a n = some (0, l, p, e, a) := by
  have h : cursor_read_uint64.f k l p e a n = some (0, l, p, e, a) := by
    unfold cursor_read_uint64.f
    refine bnd (adv_err he) ?_
    dsimp only
    rw [if_neg (by decide)]
  exact bnd h rfl
theorem cuint_short (hp : 0 ≤ p ∧ p ≤ l.length) (hl : l.length ≤ 4611686018427387904) (he : e = 0) (hn : n < 0 ∨ (l.length : Int) - p < n) (k : Nat) : cursor_Uint.f k l p e a n = some (0, l, p, 1, (l.length : Int)) := by
  have h : cursor_read_uint64.f k l p e a n = some (0, l, p, 1, (l.length : Int)) := by
    unfold cursor_read_uint64.f
    refine bnd (adv_short hp hl he hn) ?_
    dsimp only
    rw [if_neg (by decide)]
  exact bnd h rfl
theorem cuint_ok (hb : Byt l) (hp : 0 ≤ p ∧ p ≤ l.length) (hl : l.length ≤ 4611686018427387904) (he : e = 0) (m : Nat) (hm : m ≤ 8) (hn : (m : Int) ≤ (l.length : Int) - p) (k : Nat) (hk : 10 < k) : cursor_Uint.f k l p e a m = some (fieldV l p m, l, p + m, e, a) := by
  have h : cursor_read_uint64.f k l p e a m = some (fieldV l p m, l, p + m, e, a) := by
    unfold cursor_read_uint64.f
    refine bnd (adv_ok hp hl he (by omega) hn) ?_
    dsimp only
    rw [if_pos rfl]
    exact bnd (uint_f l hb hl p ⟨by omega, by omega⟩ m hm k hk) rfl
  exact bnd h rfl
theorem cint_err (he : e ≠ 0) (k : Nat) : cursor_Int.f k l p e a n = some (0, l, p, e, a) := by
  have h : cursor_read_int64.f k l p e a n = some (0, l, p, e, a) := by
    unfold cursor_read_int64.f
    refine bnd (adv_err he) ?_
    dsimp only
    rw [if_neg (by decide)]
  exact bnd h rfl
theorem cint_short (hp : 0 ≤ p ∧ p ≤ l.length) (hl : l.length ≤ 4611686018427387904) (he : e = 0) (hn : n < 0 ∨ (l.length : Int) - p < n) (k : Nat) : cursor_Int.f k l p e a n = some (0, l, p, 1, (l.length : Int)) := by
  have h : cursor_read_int64.f k l p e a n = some (0, l, p, 1, (l.length : Int)) := by
    unfold cursor_read_int64.f
    refine bnd (adv_short hp hl he hn) ?_
    dsimp only
    rw [if_neg (by decide)]
  exact bnd h rfl
theorem cint_ok (hb : Byt l) (hp : 0 ≤ p ∧ p ≤ l.length) (hl : l.length ≤ 4611686018427387904) (he : e = 0) (m : Nat) (hm : Wid m) (hn : (m : Int) ≤ (l.length : Int) - p) (k : Nat) (hk : 10 < k) : cursor_Int.f k l p e a m = some (sval m (fieldV l p m), l, p + m, e, a) := by
  have h : cursor_read_int64.f k l p e a m = some (sval m (fieldV l p m), l, p + m, e, a) := by
    unfold cursor_read_int64.f
    refine bnd (adv_ok hp hl he (by omega) hn) ?_
    dsimp only
    rw [if_pos rfl]
    exact bnd (int_f l hb hl p ⟨by omega, by omega⟩ m hm k hk) rfl
  exact bnd h rfl
end
theorem expect_all (l w : List Int) (hl : l.length ≤ 4611686018427387904) (hwl : w.length ≤ 4611686018427387904) (p : Nat) (hp : p + w.length ≤ l.length) (e a why : Int) (nl : List Int) (np ne na : Int) (h : ∀ j : Nat, j < w.length → rd l ((p + j : Nat) : Int) = rd w (j : Int)) : ∀ (d i k : Nat), i + d = w.length → d < k →
    cursor_Expect.l0 k why w (w.length : Int) (i : Int) l (p : Int) e a nl np ne na = some (nl, np, ne, na) := by
  intro d
  induction d with
  | zero =>
    intro i k hi hk
    obtain ⟨k, rfl⟩ : ∃ m, k = m + 1 := ⟨k - 1, by omega⟩
    simp only [cursor_Expect.l0]
    rw [if_neg (by omega)]
  | succ d ih =>
    intro i k hi hk
    obtain ⟨k, rfl⟩ : ∃ m, k = m + 1 := ⟨k - 1, by omega⟩
    simp only [cursor_Expect.l0]
    have e1 : wrap64 ((p : Int) + (i : Int)) = ((p + i : Nat) : Int) := by rw [w64 (by omega) (by omega)]; omega
    rw [if_pos (by omega), if_pos (by omega), if_pos (by omega), e1, if_pos (by omega), if_pos (by omega), if_pos (h i (by omega)), w64 (by omega) (by omega), show (i : Int) + 1 = ((i + 1 : Nat) : Int) by omega]
    exact ih (i + 1) k (by omega) (by omega)
theorem expect_at (l w : List Int) (hl : l.length ≤ 4611686018427387904) (hwl : w.length ≤ 4611686018427387904) (p : Nat) (hp : p + w.length ≤ l.length) (e a why : Int) (nl : List Int) (np ne na : Int) (i0 : Nat) (hi0 : i0 < w.length) (h : ∀ j : Nat, j < i0 → rd l ((p + j : Nat) : Int) = rd w (j : Int)) (hne : rd l ((p + i0 : Nat) : Int) ≠ rd w (i0 : Int)) : ∀ (d i k : Nat), i + d = i0 → d < k →
    cursor_Expect.l0 k why w (w.length : Int) (i : Int) l (p : Int) e a nl np ne na = cursor_Fail.f l p e a why ((p + i0 : Nat) : Int) := by
  intro d
  induction d with
  | zero =>
    intro i k hi hk
    obtain ⟨k, rfl⟩ : ∃ m, k = m + 1 := ⟨k - 1, by omega⟩
    obtain rfl : i = i0 := by omega
    simp only [cursor_Expect.l0]
    have e1 : wrap64 ((p : Int) + (i : Int)) = ((p + i : Nat) : Int) := by rw [w64 (by omega) (by omega)]; omega
    rw [if_pos (by omega), if_pos (by omega), if_pos (by omega), e1, if_pos (by omega), if_pos (by omega), if_neg hne]
    cases cursor_Fail.f l p e a why ((p + i : Nat) : Int) with
    | none => rfl
    | some x => rfl
  | succ d ih =>
    intro i k hi hk
    obtain ⟨k, rfl⟩ : ∃ m, k = m + 1 := ⟨k - 1, by omega⟩
    simp only [cursor_Expect.l0]
    have e1 : wrap64 ((p : Int) + (i : Int)) = ((p + i : Nat) : Int) := by rw [w64 (by omega) (by omega)]; omega
    rw [if_pos (by omega), if_pos (by omega), if_pos (by omega), e1, if_pos (by omega), if_pos (by omega), if_pos (h i (by omega)), w64 (by omega) (by omega), show (i : Int) + 1 = ((i + 1 : Nat) : Int) by omega]
    exact ih (i + 1) k (by omega) (by omega)
theorem expect_err (l w : List Int) (p e a why : Int) (he : e ≠ 0) (k : Nat) : cursor_Expect.f k l p e a w why = some (l, p, e, a) := by
  unfold cursor_Expect.f
  refine bnd (adv_err he) ?_
  dsimp only
  rw [if_neg (by decide)]
theorem expect_yes (l w : List Int) (hl : l.length ≤ 4611686018427387904) (p : Nat) (hp : p + w.length ≤ l.length) (e a why : Int) (he : e = 0) (h : ∀ j : Nat, j < w.length → rd l ((p + j : Nat) : Int) = rd w (j : Int)) (k : Nat) (hk : w.length < k) : cursor_Expect.f k l p e a w why = some (l, (p : Int) + w.length, e, a) := by
  unfold cursor_Expect.f
  refine bnd (adv_ok ⟨by omega, by omega⟩ hl he (by omega) (by omega)) ?_
  dsimp only
  rw [if_pos rfl]
  exact expect_all l w hl (by omega) p hp e a why l _ _ _ h w.length 0 k (by omega) hk
theorem expect_no (l w : List Int) (hl : l.length ≤ 4611686018427387904) (p : Nat) (hp : p + w.length ≤ l.length) (e a why : Int) (he : e = 0) (hw : why ≠ 0) (i0 : Nat) (hi0 : i0 < w.length) (h : ∀ j : Nat, j < i0 → rd l ((p + j : Nat) : Int) = rd w (j : Int)) (hne : rd l ((p + i0 : Nat) : Int) ≠ rd w (i0 : Int)) (k : Nat) (hk : w.length < k) : cursor_Expect.f k l p e a w why = some (l, (p : Int), why, ((p + i0 : Nat) : Int)) := by
  unfold cursor_Expect.f
  refine bnd (adv_ok ⟨by omega, by omega⟩ hl he (by omega) (by omega)) ?_
  dsimp only
  rw [if_pos rfl, show (0 : Int) = ((0 : Nat) : Int) from rfl, expect_at l w hl (by omega) p hp e a why l _ _ _ i0 hi0 h hne i0 0 k (by omega) (by omega)]
  exact fail_ok _ _ he hw
theorem same02_self (l : List Int) (hl : l.length ≤ 4611686018427387904) (p e a : Int) (k : Nat) (hk : l.length < k) : zoneinforef02_Same.f k l p e a l p e a = some true := by
  unfold zoneinforef02_Same.f
  refine bnd (same01_f l l hl k hk) ?_
  rw [if_pos (by simp), if_pos rfl, if_pos rfl]
  simp
theorem same02_f (l m : List Int) (hl : l.length ≤ 4611686018427387904) (p e a p' e' a' : Int) (k : Nat) (hk : l.length < k) : zoneinforef02_Same.f k l p e a m p' e' a' = some (decide (l = m ∧ p = p' ∧ e = e' ∧ a = a')) := by
  unfold zoneinforef02_Same.f
  refine bnd (same01_f l m hl k hk) ?_
  by_cases h1 : l = m
  · rw [if_pos (by simpa using h1)]
    by_cases h2 : p = p'
    · rw [if_pos h2]
      by_cases h3 : e = e'
      · rw [if_pos h3]; simp only [h1, h2, h3, true_and]; by_cases h4 : a = a' <;> simp [h4]
      · rw [if_neg h3]; simp [h3]
    · rw [if_neg h2]; simp [h2]
  · rw [if_neg (by simpa using h1)]; simp [h1]
theorem valid_f (l : List Int) (p e a : Int) : zoneinforef02_Valid.f l p e a = some (decide (0 ≤ p ∧ p ≤ l.length ∧ (e ≠ 0 ∨ a = 0) ∧ l.length ≤ 2000)) := by
  unfold zoneinforef02_Valid.f
  by_cases h1 : p ≥ 0
  · rw [if_pos h1]
    by_cases h2 : p ≤ (l.length : Int)
    · rw [if_pos h2]
      by_cases h3 : e = 0
      · rw [if_pos h3]
        by_cases h4 : a = 0
        · rw [if_pos h4]; congr 1; rw [decide_eq_decide]; omega
        · rw [if_neg h4]; congr 1; symm; rw [decide_eq_false_iff_not]; omega
      · rw [if_neg h3]; congr 1; rw [decide_eq_decide]; omega
    · rw [if_neg h2]; congr 1; symm; rw [decide_eq_false_iff_not]; omega
  · rw [if_neg h1]; congr 1; symm; rw [decide_eq_false_iff_not]; omega
theorem awake02 (k : Nat) (hk : 40 ≤ k) : zoneinfolaw02_awake.f k = some true :=
  at_rounds (fun k => zoneinfolaw02_awake.mono k) hk (by decide +kernel)
end Go.Proofs.Ytjpgfalejadblaa.Pure
