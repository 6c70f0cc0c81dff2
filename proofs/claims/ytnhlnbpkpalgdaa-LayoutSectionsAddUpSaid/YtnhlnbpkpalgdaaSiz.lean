/- What the functions of sizes and of its reference answer, in plain numbers and lists. -/
import Derived.Test.YtnhlnbpkpalgdaaWWords
import Derived.Test.YtnhlnbpkpalgdaaWMore
import Derived.Test.YtnhlnbpkpalgdaaOwn
import Derived.Test.YtnhlnbpkpalgdaaGx3
import Derived.Test.YtnhlnbpkpalgdaaBase
set_option linter.unusedVariables false
set_option linter.unusedSimpArgs false
namespace Go.Proofs.Ytnhlnbpkpalgdaa.Pure
open Go.RowKit Go.Proofs.Ytnhlnbpkpalgdaa.G Go.Proofs.YtnhlnbpkpalgdaaW.PrintWords Go.Proofs.YtnhlnbpkpalgdaaW.PrintLast Go.Proofs.YtnhlnbpkpalgdaaW.PrintMore

/-- A number of 64 bits without a sign. -/
def U (x : Int) : Prop := 0 ≤ x ∧ x < 18446744073709551616
theorem mask32 {x : Int} (h : U x) : Go.bits .and .u64 x 4294967295 = x % 4294967296 := by
  have := bits_mask .u64 64 (by decide) (fun n h0 h1 => u64w h0 (by simpa using h1)) 32 (by decide) x h.1 (by have := h.2; omega)
  simpa using this
/-- What a checked operation answers. -/
def capS (lim v : Int) : Int × Bool := if v ≤ lim then (v, true) else (0, false)
theorem capS_pos {lim v : Int} (h : v ≤ lim) : capS lim v = (v, true) := if_pos h
theorem capS_neg {lim v : Int} (h : ¬ v ≤ lim) : capS lim v = (0, false) := if_neg h
theorem add_f (a b lim : Int) (ha : U a) (hb : U b) (hl : U lim) : sizes_Add.f a b lim = some (capS lim (a + b)) := by
  unfold sizes_Add.f capS U at *
  rw [if_pos (by omega)]
  by_cases h : a + b ≤ lim
  · rw [if_neg (by omega), if_neg (by omega), if_pos h]
  · rw [if_neg h]
    by_cases h2 : a + b ≥ 18446744073709551616
    · rw [if_pos h2]
    · rw [if_neg h2, if_pos (by omega)]
theorem mul_split (x1 x0 y1 y0 : Int) : (x1 * 4294967296 + x0) * (y1 * 4294967296 + y0) = x1 * y1 * 18446744073709551616 + (x1 * y0 + x0 * y1) * 4294967296 + x0 * y0 := by
  rw [Int.add_mul, Int.mul_add, Int.mul_add]
  have e1 : x1 * 4294967296 * (y1 * 4294967296) = x1 * y1 * 18446744073709551616 := by
    rw [Int.mul_assoc, Int.mul_left_comm 4294967296 y1 4294967296, ← Int.mul_assoc]; rfl
  have e2 : x1 * 4294967296 * y0 = x1 * y0 * 4294967296 := by rw [Int.mul_assoc, Int.mul_comm 4294967296 y0, ← Int.mul_assoc]
  have e3 : x0 * (y1 * 4294967296) = x0 * y1 * 4294967296 := by rw [← Int.mul_assoc]
  rw [e1, e2, e3]; omega
theorem mul_le32 {x y : Int} (hx : 0 ≤ x ∧ x < 4294967296) (hy : 0 ≤ y ∧ y < 4294967296) : 0 ≤ x * y ∧ x * y ≤ 18446744065119617025 := by
  refine ⟨Int.mul_nonneg hx.1 hy.1, ?_⟩
  have h1 : x * y ≤ 4294967295 * y := Int.mul_le_mul_of_nonneg_right (by omega) hy.1
  omega
theorem mul64_f (a b : Int) (ha : U a) (hb : U b) : bits_Mul64.f a b = some (a * b / 18446744073709551616, a * b % 18446744073709551616) := by
  unfold bits_Mul64.f
  rw [mask32 ha, mask32 hb]
  unfold U at ha hb
  have ea : a = a / 4294967296 * 4294967296 + a % 4294967296 := by omega
  have eb : b = b / 4294967296 * 4294967296 + b % 4294967296 := by omega
  have hx1 : 0 ≤ a / 4294967296 ∧ a / 4294967296 < 4294967296 := by omega
  have hx0 : 0 ≤ a % 4294967296 ∧ a % 4294967296 < 4294967296 := by omega
  have hy1 : 0 ≤ b / 4294967296 ∧ b / 4294967296 < 4294967296 := by omega
  have hy0 : 0 ≤ b % 4294967296 ∧ b % 4294967296 < 4294967296 := by omega
  have hab : a * b = a / 4294967296 * (b / 4294967296) * 18446744073709551616 + (a / 4294967296 * (b % 4294967296) + a % 4294967296 * (b / 4294967296)) * 4294967296 + a % 4294967296 * (b % 4294967296) := by
    rw [← mul_split, ← ea, ← eb]
  have bA := mul_le32 hx1 hy1
  have bB := mul_le32 hx1 hy0
  have bC := mul_le32 hx0 hy1
  have bD := mul_le32 hx0 hy0
  rw [hab]
  generalize a / 4294967296 * (b / 4294967296) = A at *
  generalize a / 4294967296 * (b % 4294967296) = B at *
  generalize a % 4294967296 * (b / 4294967296) = C at *
  generalize a % 4294967296 * (b % 4294967296) = D at *
  clear hab ea eb hx1 hx0 hy1 hy0
  have wA : IntKind.u64.wrap A = A := u64w bA.1 (by omega)
  have wB : IntKind.u64.wrap B = B := u64w bB.1 (by omega)
  have wC : IntKind.u64.wrap C = C := u64w bC.1 (by omega)
  have wD : IntKind.u64.wrap D = D := u64w bD.1 (by omega)
  have wBD : IntKind.u64.wrap (B + D / 4294967296) = B + D / 4294967296 := u64w (by omega) (by omega)
  rw [wA, wB, wC, wD, wBD, mask32 (x := B + D / 4294967296) ⟨by omega, by omega⟩]
  have w1 : IntKind.u64.wrap ((B + D / 4294967296) % 4294967296 + C) = (B + D / 4294967296) % 4294967296 + C := u64w (by omega) (by omega)
  have w2 : IntKind.u64.wrap (A + (B + D / 4294967296) / 4294967296) = A + (B + D / 4294967296) / 4294967296 := u64w (by omega) (by omega)
  have w3 : IntKind.u64.wrap (A + (B + D / 4294967296) / 4294967296 + ((B + D / 4294967296) % 4294967296 + C) / 4294967296) = A + (B + D / 4294967296) / 4294967296 + ((B + D / 4294967296) % 4294967296 + C) / 4294967296 := u64w (by omega) (by omega)
  rw [w1, w2, w3, u64_def]
  have key : A + (B + D / 4294967296) / 4294967296 + ((B + D / 4294967296) % 4294967296 + C) / 4294967296 = (A * 18446744073709551616 + (B + C) * 4294967296 + D) / 18446744073709551616 := by omega
  rw [key]
theorem mul_f (a b lim : Int) (ha : U a) (hb : U b) (hl : U lim) : sizes_Mul.f a b lim = some (capS lim (a * b)) := by
  unfold sizes_Mul.f
  refine bnd (mul64_f a b ha hb) ?_
  dsimp only
  have hp : 0 ≤ a * b := Int.mul_nonneg ha.1 hb.1
  generalize a * b = p at *
  unfold U at hl
  by_cases h : p / 18446744073709551616 = 0
  · rw [if_pos h]
    have e : p % 18446744073709551616 = p := by omega
    rw [e]
    by_cases h2 : p > lim
    · rw [if_pos h2, capS_neg (by omega)]
    · rw [if_neg h2, capS_pos (by omega)]
  · rw [if_neg h, capS_neg (by omega)]
theorem div_lt_mul {a b lim : Int} (ha : 0 < a) : b > lim / a ↔ lim < a * b := by
  constructor
  · intro h
    have := Int.lt_mul_of_ediv_lt ha h
    rwa [Int.mul_comm] at this
  · intro h
    exact Int.ediv_lt_of_lt_mul ha (by rwa [Int.mul_comm] at h)

/-- The sum of the products of two lists, as far as both reach. -/
def dot : List Int → List Int → Int
  | a :: xs, b :: ys => a * b + dot xs ys
  | _, _ => 0
def AllU (l : List Int) : Prop := ∀ x ∈ l, U x
theorem AllU.of {l : List Int} (h : ∀ x ∈ l, (Lit.int .u64 x).wf = true) : AllU l := fun x hx => wf_u64 (h x hx)
theorem AllU.drop {l : List Int} (h : AllU l) (n : Nat) : AllU (l.drop n) := fun x hx => h x (List.mem_of_mem_drop hx)
theorem AllU.rd {l : List Int} (h : AllU l) (i : Nat) (hi : i < l.length) : U (rd l (i : Int)) := by rw [rd_nat l i hi]; exact h _ (List.getElem_mem hi)
theorem dot_nonneg (l m : List Int) (hl : AllU l) (hm : AllU m) : 0 ≤ dot l m := by
  induction l generalizing m with
  | nil => simp [dot]
  | cons a l ih =>
    cases m with
    | nil => simp [dot]
    | cons b m =>
      have h1 := Int.mul_nonneg (hl a List.mem_cons_self).1 (hm b List.mem_cons_self).1
      have h2 := ih m (fun x hx => hl x (List.mem_cons_of_mem _ hx)) (fun x hx => hm x (List.mem_cons_of_mem _ hx))
      show 0 ≤ a * b + dot l m
      omega
theorem dot_nil_left (m : List Int) : dot [] m = 0 := rfl
theorem dot_nil_right (l : List Int) : dot l [] = 0 := by cases l <;> rfl
theorem dot_drop (l m : List Int) (i : Nat) (h0 : i < l.length) (h1 : i < m.length) : dot (l.drop i) (m.drop i) = rd l (i : Int) * rd m (i : Int) + dot (l.drop (i + 1)) (m.drop (i + 1)) := by
  rw [drop_rd l i h0, drop_rd m i h1]; rfl
theorem dot_end (l m : List Int) (i : Nat) (h : l.length ≤ i ∨ m.length ≤ i) : dot (l.drop i) (m.drop i) = 0 := by
  rcases h with h | h
  · rw [List.drop_eq_nil_of_le h]; rfl
  · rw [List.drop_eq_nil_of_le h]; exact dot_nil_right _
theorem total_loop (l m : List Int) (hl : AllU l) (hm : AllU m) (lim : Int) (hlim : U lim) (n : Nat) (hn : n ≤ 1000000) (hnl : n ≤ l.length) (hnm : n ≤ m.length) (hend : l.length ≤ n ∨ m.length ≤ n) : ∀ (d i k : Nat) (s : Int), i + d = n → d < k → 0 ≤ s → s ≤ lim →
    sizes_Total.l0 k l m lim s true n i = some (capS lim (s + dot (l.drop i) (m.drop i))) := by
  intro d
  induction d with
  | zero =>
    intro i k s hi hk h0 h1
    obtain ⟨k, rfl⟩ : ∃ m, k = m + 1 := ⟨k - 1, by omega⟩
    simp only [sizes_Total.l0]
    rw [if_neg (by omega), if_pos trivial, dot_end l m i (by omega), Int.add_zero, capS_pos h1]
  | succ d ih =>
    intro i k s hi hk h0 h1
    obtain ⟨k, rfl⟩ : ∃ m, k = m + 1 := ⟨k - 1, by omega⟩
    have hA := hl.rd i (by omega)
    have hB := hm.rd i (by omega)
    have hnn := dot_nonneg (l.drop (i + 1)) (m.drop (i + 1)) (hl.drop _) (hm.drop _)
    have hp := Int.mul_nonneg hA.1 hB.1
    unfold U at hlim
    simp only [sizes_Total.l0]
    rw [if_pos (by omega), if_pos (by omega), if_pos (by omega), if_pos (by omega), dot_drop l m i (by omega) (by omega)]
    refine bnd (mul_f _ _ lim hA hB hlim) ?_
    by_cases hc : rd l (i : Int) * rd m (i : Int) ≤ lim
    · rw [capS_pos hc]
      refine bnd (add_f s _ lim ⟨h0, by omega⟩ ⟨hp, by dsimp only; omega⟩ hlim) ?_
      dsimp only
      by_cases hd : s + rd l (i : Int) * rd m (i : Int) ≤ lim
      · rw [capS_pos hd]
        dsimp only
        rw [if_pos rfl, if_pos rfl, w64 (by omega) (by omega), show (i : Int) + 1 = ((i + 1 : Nat) : Int) by omega, ih (i + 1) k _ (by omega) (by omega) (by omega) hd, Int.add_assoc]
      · rw [capS_neg hd, capS_neg (by omega)]; rfl
    · rw [capS_neg hc]
      refine bnd (add_f s 0 lim ⟨h0, by omega⟩ ⟨by omega, by omega⟩ hlim) ?_
      dsimp only
      rw [capS_pos (by omega), capS_neg (by omega)]; rfl
theorem mn_nat (a b : Nat) : mn (a : Int) (b : Int) = ((min a b : Nat) : Int) := by unfold mn; split <;> omega
theorem total_f (l m : List Int) (hl : AllU l) (hm : AllU m) (lim : Int) (hlim : U lim) (h1 : l.length ≤ 1000 ∨ m.length ≤ 1000) (k : Nat) (hk : 1000 < k) : sizes_Total.f k l m lim = some (capS lim (dot l m)) := by
  unfold sizes_Total.f
  rw [mn_nat]
  have := total_loop l m hl hm lim hlim (min l.length m.length) (by omega) (by omega) (by omega) (by omega) (min l.length m.length) 0 k 0 (by omega) (by omega) (by omega) hlim.1
  simpa using this
end Go.Proofs.Ytnhlnbpkpalgdaa.Pure
