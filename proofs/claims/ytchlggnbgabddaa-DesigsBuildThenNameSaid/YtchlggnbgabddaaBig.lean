/- What the functions of bigendian and of its reference answer, in plain numbers and lists. -/
import Derived.Test.YtchlggnbgabddaaWWords
import Derived.Test.YtchlggnbgabddaaWMore
import Derived.Test.YtchlggnbgabddaaOwn
import Derived.Test.YtchlggnbgabddaaGx25
import Derived.Test.YtchlggnbgabddaaBase
set_option linter.unusedVariables false
set_option linter.unusedSimpArgs false
namespace Go.Proofs.Ytchlggnbgabddaa.Pure
open Go.RowKit Go.Proofs.Ytchlggnbgabddaa.G Go.Proofs.YtchlggnbgabddaaW.PrintWords Go.Proofs.YtchlggnbgabddaaW.PrintLast Go.Proofs.YtchlggnbgabddaaW.PrintMore

theorem same01_loop (a b : List Int) (hab : a.length = b.length) (hl : a.length ≤ 4611686018427387904) : ∀ (d i k : Nat), i + d = a.length → d < k →
    zoneinforef01_Same.l0 k a b (i : Int) = some (decide (a.drop i = b.drop i)) := by
  intro d
  induction d with
  | zero =>
    intro i k hi hk
    obtain ⟨k, rfl⟩ : ∃ m, k = m + 1 := ⟨k - 1, by omega⟩
    simp only [zoneinforef01_Same.l0]
    rw [if_neg (by omega)]
    simp [List.drop_eq_nil_of_le (show a.length ≤ i by omega), List.drop_eq_nil_of_le (show b.length ≤ i by omega)]
  | succ d ih =>
    intro i k hi hk
    obtain ⟨k, rfl⟩ : ∃ m, k = m + 1 := ⟨k - 1, by omega⟩
    simp only [zoneinforef01_Same.l0]
    rw [if_pos (by omega), if_pos (by omega), if_pos (by omega), drop_rd a i (by omega), drop_rd b i (by omega)]
    by_cases h : rd a (i : Int) = rd b (i : Int)
    · rw [if_pos h, w64 (by omega) (by omega), show (i : Int) + 1 = ((i + 1 : Nat) : Int) by omega, ih (i + 1) k (by omega) (by omega), h]
      simp
    · rw [if_neg h]; simp [h]
theorem same01_f (a b : List Int) (hl : a.length ≤ 4611686018427387904) (k : Nat) (hk : a.length < k) : zoneinforef01_Same.f k a b = some (decide (a = b)) := by
  unfold zoneinforef01_Same.f
  by_cases h : a.length = b.length
  · rw [if_pos (by omega)]
    have := same01_loop a b h hl a.length 0 k (by omega) hk
    simpa using this
  · rw [if_neg (by omega)]
    have : ¬ a = b := fun e => h (by rw [e])
    simp [this]

/-- The value of a list of bytes. -/
def bvf (v : Int) (l : List Int) : Int := l.foldl (fun a c => a * 256 + c) v
def bv (l : List Int) : Int := bvf 0 l
theorem bvf_append (v : Int) (l m : List Int) : bvf v (l ++ m) = bvf (bvf v l) m := by unfold bvf; rw [List.foldl_append]
theorem bv_snoc (l : List Int) (c : Int) : bv (l ++ [c]) = bv l * 256 + c := by unfold bv bvf; rw [List.foldl_append]; rfl
theorem bvf_bound (l : List Int) (hl : Byt l) (v : Int) (h0 : 0 ≤ v) (m : Int) (hm : v < m) : 0 ≤ bvf v l ∧ bvf v l < m * 256 ^ l.length := by
  induction l generalizing v m with
  | nil => simp [bvf, h0, hm]
  | cons c l ih =>
    have hc := hl c List.mem_cons_self
    have := ih (fun x hx => hl x (List.mem_cons_of_mem _ hx)) (v * 256 + c) (by omega) (m * 256) (by omega)
    show 0 ≤ bvf (v * 256 + c) l ∧ bvf (v * 256 + c) l < _
    refine ⟨this.1, ?_⟩
    rw [List.length_cons, Int.pow_succ]
    have e : m * (256 ^ l.length * 256) = m * 256 * 256 ^ l.length := by rw [Int.mul_assoc, Int.mul_comm 256 (256 ^ l.length)]
    rw [e]; exact this.2
theorem bv_bound (l : List Int) (hl : Byt l) : 0 ≤ bv l ∧ bv l < 256 ^ l.length := by
  have := bvf_bound l hl 0 (by omega) 1 (by omega)
  simpa [bv] using this

theorem pow_le8 {d n : Nat} (h : d ≤ n) : (256 : Int) ^ d ≤ 256 ^ n := by
  have := Nat.pow_le_pow_right (show 0 < 256 by decide) h
  have h2 := Int.ofNat_le.2 this
  rw [Int.natCast_pow, Int.natCast_pow] at h2
  exact h2

theorem or_byte {v c : Int} (hv0 : 0 ≤ v) (hv : v < 72057594037927936) (hc0 : 0 ≤ c) (hc : c < 256) :
    Go.bits .or .u64 (IntKind.u64.wrap (v * 256)) (IntKind.u64.wrap c) = v * 256 + c := by
  rw [u64w (by omega) (by omega), u64w (by omega) (by omega)]
  exact bits_join .u64 64 (by decide) (fun n h0 h1 => u64w h0 (by simpa using h1)) 8 (v * 256) c (by omega) (by simp) (by simp; omega) hc0 (by simpa using hc) (by simp; omega)


/-- A field of n bytes at off: its value, and whether it is there. -/
def fieldOk (l : List Int) (off : Int) (n : Nat) : Bool := decide (0 ≤ off ∧ off + n ≤ l.length)
def fieldV (l : List Int) (off : Int) (n : Nat) : Int := if fieldOk l off n = true then bv ((l.drop off.toNat).take n) else 0
theorem fieldV_bound (l : List Int) (hl : Byt l) (off : Int) (n : Nat) (hn : n ≤ 8) : 0 ≤ fieldV l off n ∧ fieldV l off n < 256 ^ n := by
  unfold fieldV
  have hp : (0 : Int) < 256 ^ n := Int.pow_pos (by omega)
  split
  · have := bv_bound ((l.drop off.toNat).take n) ((hl.drop _).take _)
    refine ⟨this.1, Int.lt_of_lt_of_le this.2 (pow_le8 ?_)⟩
    rw [List.length_take]; omega
  · exact ⟨Int.le_refl _, hp⟩


/-- A width of a field. -/
def Wid (n : Nat) : Prop := n = 1 ∨ n = 4 ∨ n = 8
theorem Wid.le {n : Nat} (h : Wid n) : n ≤ 8 := by unfold Wid at h; omega
/-- The signed value of n bytes. -/
def sval (n : Nat) (v : Int) : Int := if n = 1 then (v + 128) % 256 - 128 else if n = 4 then (v + 2147483648) % 4294967296 - 2147483648 else (v + 9223372036854775808) % 18446744073709551616 - 9223372036854775808

theorem shl_lit {k : IntKind} {x s : Int} (n : Nat) (c : Int) (h : min s.toNat k.bits = n) (hc : (2 : Int) ^ n = c) : shl k x s = k.wrap (x * c) := by unfold shl; rw [h, hc]
theorem shr_lit {k : IntKind} {x s : Int} (n : Nat) (c : Int) (h : min s.toNat k.bits = n) (hc : (2 : Int) ^ n = c) : shr k x s = x / c := by unfold shr; rw [h, hc]
theorem shift1 : IntKind.u64.wrap (wrap64 (64 - wrap64 (8 * ((1 : Nat) : Int)))) = 56 := by rw [u64_def]; unfold wrap64; omega
theorem shift4 : IntKind.u64.wrap (wrap64 (64 - wrap64 (8 * ((4 : Nat) : Int)))) = 32 := by rw [u64_def]; unfold wrap64; omega
theorem shift8 : IntKind.u64.wrap (wrap64 (64 - wrap64 (8 * ((8 : Nat) : Int)))) = 0 := by rw [u64_def]; unfold wrap64; omega
theorem sext1 {v : Int} (h0 : 0 ≤ v) (h : v < 256) : shr .i64 (wrap64 (shl .u64 v 56)) 56 = sval 1 v := by
  rw [shl_lit 56 72057594037927936 rfl rfl, shr_lit 56 72057594037927936 rfl rfl, u64_def, show sval 1 v = (v + 128) % 256 - 128 from rfl]
  unfold wrap64; omega
theorem sext4 {v : Int} (h0 : 0 ≤ v) (h : v < 4294967296) : shr .i64 (wrap64 (shl .u64 v 32)) 32 = sval 4 v := by
  rw [shl_lit 32 4294967296 rfl rfl, shr_lit 32 4294967296 rfl rfl, u64_def, show sval 4 v = (v + 2147483648) % 4294967296 - 2147483648 from rfl]
  unfold wrap64; omega
theorem sext8 {v : Int} (h0 : 0 ≤ v) (h : v < 18446744073709551616) : shr .i64 (wrap64 (shl .u64 v 0)) 0 = sval 8 v := by
  rw [shl_lit 0 1 rfl rfl, shr_lit 0 1 rfl rfl, u64_def, show sval 8 v = (v + 9223372036854775808) % 18446744073709551616 - 9223372036854775808 from rfl]
  unfold wrap64; omega
theorem fit1 (v : Int) : shr .i64 (shl .i64 v 56) 56 = sval 1 v := by
  rw [shl_lit 56 72057594037927936 rfl rfl, shr_lit 56 72057594037927936 rfl rfl, i64_def, show sval 1 v = (v + 128) % 256 - 128 from rfl]
  unfold wrap64; omega
theorem fit4 (v : Int) : shr .i64 (shl .i64 v 32) 32 = sval 4 v := by
  rw [shl_lit 32 4294967296 rfl rfl, shr_lit 32 4294967296 rfl rfl, i64_def, show sval 4 v = (v + 2147483648) % 4294967296 - 2147483648 from rfl]
  unfold wrap64; omega
theorem fit8 (v : Int) : shr .i64 (shl .i64 v 0) 0 = sval 8 v := by
  rw [shl_lit 0 1 rfl rfl, shr_lit 0 1 rfl rfl, i64_def, show sval 8 v = (v + 9223372036854775808) % 18446744073709551616 - 9223372036854775808 from rfl]
  unfold wrap64; omega

/-- The n lower bytes of v, the highest first. -/
def enc : Nat → Int → List Int
  | 0, _ => []
  | n + 1, v => (v / 256 ^ n % 256) :: enc n v
theorem enc_length (n : Nat) (v : Int) : (enc n v).length = n := by
  induction n with
  | zero => rfl
  | succ n ih => simp [enc, ih]
theorem enc_byt (n : Nat) (v : Int) : Byt (enc n v) := by
  induction n with
  | zero => exact Byt.nil
  | succ n ih =>
    intro x hx
    rcases List.mem_cons.1 hx with rfl | h
    · omega
    · exact ih x h
theorem enc_snoc (n : Nat) (v : Int) : enc (n + 1) v = enc n (v / 256) ++ [v % 256] := by
  induction n generalizing v with
  | zero => simp [enc]
  | succ n ih =>
    have e : v / 256 ^ (n + 1) = v / 256 / 256 ^ n := by rw [Int.ediv_ediv_of_nonneg (by omega), Int.pow_succ, Int.mul_comm]
    show (v / 256 ^ (n + 1) % 256) :: enc (n + 1) v = _
    rw [ih, e]
    rfl
theorem bv_enc (n : Nat) (v : Int) : bv (enc n v) = v % 256 ^ n := by
  induction n generalizing v with
  | zero => simp [enc, bv, bvf]
  | succ n ih =>
    rw [enc_snoc, bv_snoc, ih, Int.pow_succ]
    have hp : (0 : Int) < 256 ^ n := Int.pow_pos (by omega)
    have h1 : v / 256 % 256 ^ n = v / 256 - 256 ^ n * (v / 256 / 256 ^ n) := Int.emod_def _ _
    have h2 : v % (256 ^ n * 256) = v - 256 ^ n * 256 * (v / (256 ^ n * 256)) := Int.emod_def _ _
    have h3 : v / (256 ^ n * 256) = v / 256 / 256 ^ n := by rw [Int.mul_comm, ← Int.ediv_ediv_of_nonneg (by omega)]
    rw [h1, h2, h3]
    have h4 : 256 ^ n * 256 * (v / 256 / 256 ^ n) = 256 ^ n * (v / 256 / 256 ^ n) * 256 := by rw [Int.mul_assoc, Int.mul_comm 256, ← Int.mul_assoc]
    rw [h4]
    omega
/-- The bytes of a list are the encoding of its value. -/
theorem enc_bv (l : List Int) (hl : Byt l) : enc l.length (bv l) = l := by
  induction hn : l.length generalizing l with
  | zero => rw [List.length_eq_zero_iff.1 hn]; rfl
  | succ n ih =>
    have hne : l ≠ [] := by intro h; rw [h] at hn; cases hn
    obtain ⟨m, c, rfl⟩ : ∃ m c, l = m ++ [c] := ⟨l.dropLast, l.getLast hne, (List.dropLast_concat_getLast hne).symm⟩
    have hm : m.length = n := by simpa using hn
    have hc := hl c (by simp)
    rw [enc_snoc, bv_snoc, show (bv m * 256 + c) / 256 = bv m by omega, show (bv m * 256 + c) % 256 = c by omega]
    rw [ih m (fun x hx => hl x (by simp [hx])) hm]


/-- Does a signed value fit in n bytes? -/
def fitsB (v : Int) (n : Nat) : Bool := sval n v == v
end Go.Proofs.Ytchlggnbgabddaa.Pure
