/- What the laws of layer 1 share: the fixed examples, and fields behind an append. -/
import Derived.Test.YtkjladlaicdhpaaWWords
import Derived.Test.YtkjladlaicdhpaaWMore
import Derived.Test.YtkjladlaicdhpaaOwn
import Derived.Test.YtkjladlaicdhpaaGx6
import Derived.Test.YtkjladlaicdhpaaBase
import Derived.Test.YtkjladlaicdhpaaBig
set_option linter.unusedVariables false
set_option linter.unusedSimpArgs false
namespace Go.Proofs.Ytkjladlaicdhpaa.Pure
open Go.RowKit Go.Proofs.Ytkjladlaicdhpaa.G Go.Proofs.YtkjladlaicdhpaaW.PrintWords Go.Proofs.YtkjladlaicdhpaaW.PrintLast Go.Proofs.YtkjladlaicdhpaaW.PrintMore

theorem awake01 (k : Nat) (hk : 20 ≤ k) : zoneinfolaw01_awake.f k = some true :=
  at_rounds (fun k => zoneinfolaw01_awake.mono k) hk (by decide +kernel)
theorem fieldOk_append (l : List Int) (n : Nat) (v : Int) : fieldOk (l ++ enc n v) l.length n = true := by
  unfold fieldOk; rw [decide_eq_true_iff, List.length_append, enc_length]; omega
theorem fieldV_append (l : List Int) (n : Nat) (v : Int) : fieldV (l ++ enc n v) l.length n = v % 256 ^ n := by
  unfold fieldV
  rw [if_pos (fieldOk_append l n v), Int.toNat_natCast, List.drop_left, List.take_of_length_le (by rw [enc_length]; omega), bv_enc]
theorem sval_mod (n : Nat) (hn : Wid n) (v : Int) : sval n (IntKind.u64.wrap v % 256 ^ n) = sval n v := by
  rw [u64_def]
  rcases hn with rfl | rfl | rfl
  · show (_ + 128) % 256 - 128 = (v + 128) % 256 - 128; omega
  · show (_ + 2147483648) % 4294967296 - 2147483648 = (v + 2147483648) % 4294967296 - 2147483648; omega
  · show (_ + 9223372036854775808) % 18446744073709551616 - 9223372036854775808 = (v + 9223372036854775808) % 18446744073709551616 - 9223372036854775808; omega
theorem fitsB_sval (n : Nat) (hn : Wid n) (v : Int) : fitsB (sval n v) n = true := by
  unfold fitsB
  rw [beq_iff_eq]
  rcases hn with rfl | rfl | rfl
  · show ((v + 128) % 256 - 128 + 128) % 256 - 128 = (v + 128) % 256 - 128; omega
  · show ((v + 2147483648) % 4294967296 - 2147483648 + 2147483648) % 4294967296 - 2147483648 = (v + 2147483648) % 4294967296 - 2147483648; omega
  · show ((v + 9223372036854775808) % 18446744073709551616 - 9223372036854775808 + 9223372036854775808) % 18446744073709551616 - 9223372036854775808 = (v + 9223372036854775808) % 18446744073709551616 - 9223372036854775808; omega
theorem sval_range (n : Nat) (hn : Wid n) (v : Int) : -9223372036854775808 ≤ sval n v ∧ sval n v ≤ 9223372036854775807 := by
  rcases hn with rfl | rfl | rfl
  · rw [show sval 1 v = (v + 128) % 256 - 128 from rfl]; omega
  · rw [show sval 4 v = (v + 2147483648) % 4294967296 - 2147483648 from rfl]; omega
  · rw [show sval 8 v = (v + 9223372036854775808) % 18446744073709551616 - 9223372036854775808 from rfl]; omega
/-- The modulus of a narrow field. -/
theorem modulus (n : Nat) (hn : Wid n) (h8 : (n : Int) < 8) : 0 ≤ IntKind.u64.wrap (8 * IntKind.u64.wrap n) ∧ shl .u64 1 (IntKind.u64.wrap (8 * IntKind.u64.wrap n)) = 256 ^ n := by
  rcases hn with rfl | rfl | rfl
  · rw [show IntKind.u64.wrap (8 * IntKind.u64.wrap ((1 : Nat) : Int)) = 8 by rw [u64_def, u64_def]; omega, shl_lit 8 256 rfl rfl, u64_def]; decide
  · rw [show IntKind.u64.wrap (8 * IntKind.u64.wrap ((4 : Nat) : Int)) = 32 by rw [u64_def, u64_def]; omega, shl_lit 32 4294967296 rfl rfl, u64_def]; decide
  · omega
end Go.Proofs.Ytkjladlaicdhpaa.Pure
