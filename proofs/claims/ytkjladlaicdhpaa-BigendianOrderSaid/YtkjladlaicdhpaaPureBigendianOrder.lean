/- For equal widths unsigned values are ordered like their encodings, byte by byte; signed values of one width fit in every larger one: the plain law behind the walk. No condition. -/
import Derived.Test.YtkjladlaicdhpaaWWords
import Derived.Test.YtkjladlaicdhpaaWMore
import Derived.Test.YtkjladlaicdhpaaOwn
import Derived.Test.YtkjladlaicdhpaaGx17
import Derived.Test.YtkjladlaicdhpaaGx5
import Derived.Test.YtkjladlaicdhpaaBase
import Derived.Test.YtkjladlaicdhpaaBig
import Derived.Test.YtkjladlaicdhpaaL01
set_option linter.unusedVariables false
namespace Go.Proofs.Ytkjladlaicdhpaa.Pure
open Go.RowKit Go.Proofs.Ytkjladlaicdhpaa.G Go.Proofs.YtkjladlaicdhpaaW.PrintWords Go.Proofs.YtkjladlaicdhpaaW.PrintLast

theorem enc_at (n : Nat) (v : Int) : ∀ i : Nat, i < n → rd (enc n v) (i : Int) = v / 256 ^ (n - 1 - i) % 256 := by
  induction n with
  | zero => intro i hi; omega
  | succ n ih =>
    intro i hi
    cases i with
    | zero => simp [enc, rd]
    | succ i =>
      have := ih i (by omega)
      rw [show n + 1 - 1 - (i + 1) = n - 1 - i by omega, ← this]
      unfold rd
      simp [enc, List.getD_eq_getElem?_getD]
/-- One byte more, compared. -/
theorem mod_lt_step (v u : Int) (m : Nat) : (v % 256 ^ (m + 1) < u % 256 ^ (m + 1)) ↔ (if v / 256 ^ m % 256 = u / 256 ^ m % 256 then v % 256 ^ m < u % 256 ^ m else v / 256 ^ m % 256 < u / 256 ^ m % 256) := by
  have hp : (0 : Int) < 256 ^ m := Int.pow_pos (by omega)
  have key : ∀ x : Int, x % 256 ^ (m + 1) = x / 256 ^ m % 256 * 256 ^ m + x % 256 ^ m := by
    intro x
    rw [Int.pow_succ, Int.emod_def x (256 ^ m * 256), ← Int.ediv_ediv_of_nonneg (by omega), Int.emod_def x (256 ^ m), Int.emod_def (x / 256 ^ m) 256]
    generalize x / 256 ^ m / 256 = R
    generalize x / 256 ^ m = Q
    generalize (256 : Int) ^ m = M
    have h1 : M * 256 * R = 256 * R * M := by rw [Int.mul_comm M 256, Int.mul_assoc, Int.mul_comm M R, ← Int.mul_assoc]
    have h2 : M * Q = Q * M := Int.mul_comm _ _
    rw [Int.sub_mul, h1, h2]; omega
  rw [key v, key u]
  have hv := Int.emod_nonneg v (Int.ne_of_gt hp)
  have hv2 := Int.emod_lt_of_pos v hp
  have hu := Int.emod_nonneg u (Int.ne_of_gt hp)
  have hu2 := Int.emod_lt_of_pos u hp
  generalize v % 256 ^ m = p at *
  generalize u % 256 ^ m = q at *
  generalize v / 256 ^ m % 256 = a
  generalize u / 256 ^ m % 256 = b
  generalize (256 : Int) ^ m = M at *
  split
  · rename_i h; rw [h]; constructor <;> intro _ <;> omega
  · rename_i h
    constructor
    · intro h1
      by_cases hab : a < b
      · exact hab
      · exfalso
        have : (b + 1) * M ≤ a * M := Int.mul_le_mul_of_nonneg_right (by omega) (by omega)
        rw [Int.add_mul] at this; omega
    · intro h1
      have : (a + 1) * M ≤ b * M := Int.mul_le_mul_of_nonneg_right (by omega) (by omega)
      rw [Int.add_mul] at this; omega
theorem fits_mono (s : Int) (h : fitsB s 1 = true) : fitsB s 4 = true := by
  unfold fitsB at *
  rw [beq_iff_eq, show sval 1 s = (s + 128) % 256 - 128 from rfl] at h
  rw [beq_iff_eq, show sval 4 s = (s + 2147483648) % 4294967296 - 2147483648 from rfl]; omega
theorem fits_8 (s : Int) (hs : -9223372036854775808 ≤ s ∧ s ≤ 9223372036854775807) : fitsB s 8 = true := by
  unfold fitsB
  rw [beq_iff_eq, show sval 8 s = (s + 9223372036854775808) % 18446744073709551616 - 9223372036854775808 from rfl]; omega
theorem order_loop (n : Nat) (hn : Wid n) (v u s : Int) (hv : 0 ≤ v ∧ v < 256 ^ n) (hu : 0 ≤ u ∧ u < 256 ^ n) (hs : -9223372036854775808 ≤ s ∧ s ≤ 9223372036854775807) : ∀ (d k : Nat), d ≤ n → d + 20 < k →
    zoneinfolaw01_BigendianOrder.l0 k v u s (enc n v) (enc n u) (decide (v % 256 ^ (n - d) < u % 256 ^ (n - d))) ((d : Int) - 1) = some true := by
  intro d
  induction d with
  | zero =>
    intro k hd hk
    obtain ⟨k, rfl⟩ : ∃ m, k = m + 1 := ⟨k - 1, by omega⟩
    simp only [zoneinfolaw01_BigendianOrder.l0]
    rw [if_neg (by omega), Nat.sub_zero, Int.emod_eq_of_lt hv.1 hv.2, Int.emod_eq_of_lt hu.1 hu.2, if_pos (by simp)]
    have f8 : bigendian_Fits.f s 8 = some true := by rw [← fits_8 s hs]; exact fits_f s 8 (.inr (.inr rfl))
    refine bnd (fits_f s 1 (.inl rfl)) ?_
    cases h1 : fitsB s 1 with
    | true =>
      have f4 : bigendian_Fits.f s 4 = some true := by rw [← fits_mono s h1]; exact fits_f s 4 (.inr (.inl rfl))
      rw [if_pos rfl]
      refine bnd f4 ?_
      simp only [if_true]
      repeat first | exact f8 | rfl | (refine bnd f8 ?_) | (refine bnd f4 ?_) | rw [if_pos rfl]
    | false =>
      rw [if_neg (by decide)]
      refine bnd (fits_f s 4 (.inr (.inl rfl))) ?_
      cases h4 : fitsB s 4 with
      | true => repeat first | exact f8 | rfl | (refine bnd f8 ?_) | rw [if_pos rfl]
      | false => repeat first | exact f8 | rfl | (refine bnd f8 ?_) | rw [if_neg (by decide)]
  | succ d ih =>
    intro k hd hk
    obtain ⟨k, rfl⟩ : ∃ m, k = m + 1 := ⟨k - 1, by omega⟩
    have := hn.le
    simp only [zoneinfolaw01_BigendianOrder.l0]
    have e : ((d + 1 : Nat) : Int) - 1 = (d : Int) := by omega
    rw [e, if_pos (by omega), if_pos (by omega), if_pos (by rw [enc_length]; omega), if_pos (by rw [enc_length]; omega), w64 (by omega) (by omega), enc_at n v d (by omega), enc_at n u d (by omega)]
    have st := mod_lt_step v u (n - 1 - d)
    rw [show n - 1 - d + 1 = n - d by omega] at st
    rw [show n - (d + 1) = n - 1 - d by omega]
    have ih' := ih k (by omega) (by omega)
    by_cases h : v / 256 ^ (n - 1 - d) % 256 = u / 256 ^ (n - 1 - d) % 256
    · rw [if_pos h] at st ⊢
      rw [decide_eq_decide.2 st] at ih'
      exact ih'
    · rw [if_neg h] at st ⊢
      rw [decide_eq_decide.2 st] at ih'
      exact ih'
theorem order_0 (n : Nat) (hn : Wid n) (v u s : Int) (hv : 0 ≤ v ∧ v < 256 ^ n) (hu : 0 ≤ u ∧ u < 256 ^ n) (hs : -9223372036854775808 ≤ s ∧ s ≤ 9223372036854775807) (k : Nat) (hk : 60 ≤ k) :
    zoneinfolaw01_BigendianOrder.j0 (k + 1 + 1) v u s n = some true := by
  have := hn.le
  simp only [zoneinfolaw01_BigendianOrder.j0]
  refine bnd (append_f [] n hn.le v hv.1 (by simp) _ (by omega)) ?_
  refine bnd (append_f [] n hn.le u hu.1 (by simp) _ (by omega)) ?_
  rw [List.nil_append, List.nil_append, enc_length, enc_length, if_pos rfl]
  simp only [zoneinfolaw01_BigendianOrder.j1]
  rw [if_neg (by simp), w64 (by omega) (by omega)]
  have h := order_loop n hn v u s hv hu hs n k (Nat.le_refl _) (by omega)
  rw [Nat.sub_self, Int.pow_zero, Int.emod_one, Int.emod_one] at h
  exact h
theorem BigendianOrder : zoneinfolaw01_BigendianOrder.Pure := by
  intro a0 a1 a2 a3 h0 h1 h2 h3
  have w0 := wf_u8 h0
  have w1 := wf_u64 h1
  have w2 := wf_u64 h2
  have w3 := wf_i64 h3
  refine ⟨70 + 1 + 1, ?_⟩
  unfold zoneinfolaw01_BigendianOrder.f
  refine bnd (awake01 _ (by omega)) ?_
  rw [if_pos rfl]
  obtain ⟨n, hn, hw⟩ := width_f a0 w0.1
  have := hn.le
  refine bnd hw ?_
  have hp : (0 : Int) < 256 ^ n := Int.pow_pos (by omega)
  by_cases h8 : (n : Int) < 8
  · obtain ⟨m1, m2⟩ := modulus n hn h8
    rw [if_pos h8, if_pos m1, m2, if_neg (by omega), Int.tmod_eq_emod_of_nonneg w1.1, Int.tmod_eq_emod_of_nonneg w2.1]
    exact order_0 n hn _ _ a3 ⟨Int.emod_nonneg _ (by omega), Int.emod_lt_of_pos _ hp⟩ ⟨Int.emod_nonneg _ (by omega), Int.emod_lt_of_pos _ hp⟩ w3 70 (by omega)
  · rw [if_neg h8]
    obtain rfl : n = 8 := by omega
    exact order_0 8 hn _ _ a3 (by omega) (by omega) w3 70 (by omega)
end Go.Proofs.Ytkjladlaicdhpaa.Pure
