/- Cursors: what the functions of cursor and of its reference answer, in plain lists. -/
import Derived.Test.YtikgbmldbfgkdaaDoorWWords
import Derived.Test.YtikgbmldbfgkdaaDoorWMore
import Derived.Test.YtikgbmldbfgkdaaDoorOwn
import Derived.Test.YtikgbmldbfgkdaaDoorGx10
import Derived.Test.YtikgbmldbfgkdaaDoorGx12
import Derived.Test.YtikgbmldbfgkdaaDoorGx13
import Derived.Test.YtikgbmldbfgkdaaDoorGx7
import Derived.Test.YtikgbmldbfgkdaaDoorGx8
import Derived.Test.YtikgbmldbfgkdaaDoorGx9
import Derived.Test.YtikgbmldbfgkdaaDoorBase
import Derived.Test.YtikgbmldbfgkdaaDoorBig
set_option linter.unusedVariables false
set_option linter.unusedSimpArgs false
namespace Go.Proofs.YtikgbmldbfgkdaaDoor.Pure
open Go.RowKit Go.Proofs.YtikgbmldbfgkdaaDoor.G Go.Proofs.YtikgbmldbfgkdaaDoorW.PrintWords Go.Proofs.YtikgbmldbfgkdaaDoorW.PrintLast Go.Proofs.YtikgbmldbfgkdaaDoorW.PrintMore

section
variable {l : List Int} {p e a n : Int}
theorem rest_ok (hp : 0 ≤ p ∧ p ≤ l.length) (hl : l.length ≤ 4611686018427387904) (he : e = 0) : cursor_Rest.f l p e a = some ((l.length : Int) - p) := by
  unfold cursor_Rest.f
  rw [if_pos he, w64 (by omega) (by omega)]
theorem rest_err (he : e ≠ 0) : cursor_Rest.f l p e a = some 0 := by
  unfold cursor_Rest.f
  rw [if_neg he]
theorem fail_ok (why at_ : Int) (he : e = 0) (hw : why ≠ 0) : cursor_Fail.f l p e a why at_ = some (l, p, why, at_) := by
  unfold cursor_Fail.f
  rw [if_pos he, if_neg hw]
theorem fail_err (why at_ : Int) (he : e ≠ 0) : cursor_Fail.f l p e a why at_ = some (l, p, e, a) := by
  unfold cursor_Fail.f
  rw [if_neg he]
theorem adv_err (he : e ≠ 0) : cursor_advance.f l p e a n = some (l, p, e, a, false) := by
  unfold cursor_advance.f
  rw [if_neg he]
theorem adv_short (hp : 0 ≤ p ∧ p ≤ l.length) (hl : l.length ≤ 4611686018427387904) (he : e = 0) (hn : n < 0 ∨ (l.length : Int) - p < n) : cursor_advance.f l p e a n = some (l, p, 1, (l.length : Int), false) := by
  unfold cursor_advance.f
  rw [if_pos he]
  by_cases h : n < 0
  · rw [if_pos h]
    exact bnd (fail_ok _ _ he (by decide)) rfl
  · rw [if_neg h]
    refine bnd (rest_ok hp hl he) ?_
    rw [if_pos (by omega)]
    exact bnd (fail_ok _ _ he (by decide)) rfl
theorem adv_ok (hp : 0 ≤ p ∧ p ≤ l.length) (hl : l.length ≤ 4611686018427387904) (he : e = 0) (h0 : 0 ≤ n) (hn : n ≤ (l.length : Int) - p) : cursor_advance.f l p e a n = some (l, p + n, e, a, true) := by
  unfold cursor_advance.f
  rw [if_pos he, if_neg (by omega)]
  refine bnd (rest_ok hp hl he) ?_
  rw [if_neg (by omega), w64 (by omega) (by omega)]
theorem cuint_err (he : e ≠ 0) (k : Nat) : cursor_Uint.f k l p e a n = some (0, l, p, e, a) := by
  have h : cursor_read_uint64.f k l p e a n = some (0, l, p, e, a) := by
    unfold cursor_read_uint64.f
    refine bnd (adv_err he) ?_
    dsimp only
    rw [if_neg (by decide)]
  exact bnd h rfl
theorem cuint_short (hp : 0 ≤ p ∧ p ≤ l.length) (hl : l.length ≤ 4611686018427387904) (he : e = 0) (hn : n < 0 ∨ (l.length : Int) - p < n) (k : Nat) : cursor_Uint.f k l p e a n = some (0, l, p, 1, (l.length : Int)) := by
  have h : cursor_read_uint64.f k l p e a n = some (0, l, p, 1, (l.length : Int)) := by
    unfold cursor_read_uint64.f
    refine bnd (adv_short hp hl he hn) ?_
    dsimp only
    rw [if_neg (by decide)]
  exact bnd h rfl
theorem cuint_ok (hb : Byt l) (hp : 0 ≤ p ∧ p ≤ l.length) (hl : l.length ≤ 4611686018427387904) (he : e = 0) (m : Nat) (hm : m ≤ 8) (hn : (m : Int) ≤ (l.length : Int) - p) (k : Nat) (hk : 10 < k) : cursor_Uint.f k l p e a m = some (fieldV l p m, l, p + m, e, a) := by
  have h : cursor_read_uint64.f k l p e a m = some (fieldV l p m, l, p + m, e, a) := by
    unfold cursor_read_uint64.f
    refine bnd (adv_ok hp hl he (by omega) hn) ?_
    dsimp only
    rw [if_pos rfl]
    exact bnd (uint_f l hb hl p ⟨by omega, by omega⟩ m hm k hk) rfl
  exact bnd h rfl
end
theorem expect_all (l w : List Int) (hl : l.length ≤ 4611686018427387904) (hwl : w.length ≤ 4611686018427387904) (p : Nat) (hp : p + w.length ≤ l.length) (e a why : Int) (nl : List Int) (np ne na : Int) (h : ∀ j : Nat, j < w.length → rd l ((p + j : Nat) : Int) = rd w (j : Int)) : ∀ (d i k : Nat), i + d = w.length → d < k →
    cursor_Expect.l0 k why w (w.length : Int) (i : Int) l (p : Int) e a nl np ne na = some (nl, np, ne, na) := by
  intro d
  induction d with
  | zero =>
    intro i k hi hk
    obtain ⟨k, rfl⟩ : ∃ m, k = m + 1 := ⟨k - 1, by omega⟩
    simp only [cursor_Expect.l0]
    rw [if_neg (by omega)]
  | succ d ih =>
    intro i k hi hk
    obtain ⟨k, rfl⟩ : ∃ m, k = m + 1 := ⟨k - 1, by omega⟩
    simp only [cursor_Expect.l0]
    have e1 : wrap64 ((p : Int) + (i : Int)) = ((p + i : Nat) : Int) := by rw [w64 (by omega) (by omega)]; omega
    rw [if_pos (by omega), if_pos (by omega), if_pos (by omega), e1, if_pos (by omega), if_pos (by omega), if_pos (h i (by omega)), w64 (by omega) (by omega), show (i : Int) + 1 = ((i + 1 : Nat) : Int) by omega]
    exact ih (i + 1) k (by omega) (by omega)
theorem expect_at (l w : List Int) (hl : l.length ≤ 4611686018427387904) (hwl : w.length ≤ 4611686018427387904) (p : Nat) (hp : p + w.length ≤ l.length) (e a why : Int) (nl : List Int) (np ne na : Int) (i0 : Nat) (hi0 : i0 < w.length) (h : ∀ j : Nat, j < i0 → rd l ((p + j : Nat) : Int) = rd w (j : Int)) (hne : rd l ((p + i0 : Nat) : Int) ≠ rd w (i0 : Int)) : ∀ (d i k : Nat), i + d = i0 → d < k →
    cursor_Expect.l0 k why w (w.length : Int) (i : Int) l (p : Int) e a nl np ne na = cursor_Fail.f l p e a why ((p + i0 : Nat) : Int) := by
  intro d
  induction d with
  | zero =>
    intro i k hi hk
    obtain ⟨k, rfl⟩ : ∃ m, k = m + 1 := ⟨k - 1, by omega⟩
    obtain rfl : i = i0 := by omega
    simp only [cursor_Expect.l0]
    have e1 : wrap64 ((p : Int) + (i : Int)) = ((p + i : Nat) : Int) := by rw [w64 (by omega) (by omega)]; omega
    rw [if_pos (by omega), if_pos (by omega), if_pos (by omega), e1, if_pos (by omega), if_pos (by omega), if_neg hne]
    cases cursor_Fail.f l p e a why ((p + i : Nat) : Int) with
    | none => rfl
    | some x => rfl
  | succ d ih =>
    intro i k hi hk
    obtain ⟨k, rfl⟩ : ∃ m, k = m + 1 := ⟨k - 1, by omega⟩
    simp only [cursor_Expect.l0]
    have e1 : wrap64 ((p : Int) + (i : Int)) = ((p + i : Nat) : Int) := by rw [w64 (by omega) (by omega)]; omega
    rw [if_pos (by omega), if_pos (by omega), if_pos (by omega), e1, if_pos (by omega), if_pos (by omega), if_pos (h i (by omega)), w64 (by omega) (by omega), show (i : Int) + 1 = ((i + 1 : Nat) : Int) by omega]
    exact ih (i + 1) k (by omega) (by omega)
theorem expect_err (l w : List Int) (p e a why : Int) (he : e ≠ 0) (k : Nat) : cursor_Expect.f k l p e a w why = some (l, p, e, a) := by
  unfold cursor_Expect.f
  refine bnd (adv_err he) ?_
  dsimp only
  rw [if_neg (by decide)]
theorem expect_yes (l w : List Int) (hl : l.length ≤ 4611686018427387904) (p : Nat) (hp : p + w.length ≤ l.length) (e a why : Int) (he : e = 0) (h : ∀ j : Nat, j < w.length → rd l ((p + j : Nat) : Int) = rd w (j : Int)) (k : Nat) (hk : w.length < k) : cursor_Expect.f k l p e a w why = some (l, (p : Int) + w.length, e, a) := by
  unfold cursor_Expect.f
  refine bnd (adv_ok ⟨by omega, by omega⟩ hl he (by omega) (by omega)) ?_
  dsimp only
  rw [if_pos rfl]
  exact expect_all l w hl (by omega) p hp e a why l _ _ _ h w.length 0 k (by omega) hk
theorem expect_no (l w : List Int) (hl : l.length ≤ 4611686018427387904) (p : Nat) (hp : p + w.length ≤ l.length) (e a why : Int) (he : e = 0) (hw : why ≠ 0) (i0 : Nat) (hi0 : i0 < w.length) (h : ∀ j : Nat, j < i0 → rd l ((p + j : Nat) : Int) = rd w (j : Int)) (hne : rd l ((p + i0 : Nat) : Int) ≠ rd w (i0 : Int)) (k : Nat) (hk : w.length < k) : cursor_Expect.f k l p e a w why = some (l, (p : Int), why, ((p + i0 : Nat) : Int)) := by
  unfold cursor_Expect.f
  refine bnd (adv_ok ⟨by omega, by omega⟩ hl he (by omega) (by omega)) ?_
  dsimp only
  rw [if_pos rfl, show (0 : Int) = ((0 : Nat) : Int) from rfl, expect_at l w hl (by omega) p hp e a why l _ _ _ i0 hi0 h hne i0 0 k (by omega) (by omega)]
  exact fail_ok _ _ he hw
end Go.Proofs.YtikgbmldbfgkdaaDoor.Pure
