/- Written by a program of this session for this seat: contracts of the functions that its laws reach, or the row of a law over its plain part. -/
import Derived.Test.YtnhlnbpkpalgdaaGx0
namespace Go.Proofs.Ytnhlnbpkpalgdaa.G
open Go.RowKit Go.Proofs.YtnhlnbpkpalgdaaW.PrintWords Go.Proofs.YtnhlnbpkpalgdaaW.PrintLast Go.Proofs.YtnhlnbpkpalgdaaW.PrintMore
attribute [local go_sem] max2_int min2_int max_two min_two max_three min_three max_four min_four   -- for this text's walks alone
set_option linter.unusedVariables false
set_option linter.unusedSimpArgs false

theorem eqA33 (d : Nat) (w : World) (x0 y0 : Int) (x1 y1 : Int) (x2 y2 : Int) (x3 y3 : Int) (x4 y4 : Int) (x5 y5 : Int) (x6 y6 : Int) (x7 y7 : Int) :
    (Op.equalIn (d + 2) 33 (.agg #[.int .u64 x0, .int .u64 x1, .int .u64 x2, .int .u64 x3, .int .u64 x4, .int .u64 x5, .int .u64 x6, .int .u64 x7]) (.agg #[.int .u64 y0, .int .u64 y1, .int .u64 y2, .int .u64 y3, .int .u64 y4, .int .u64 y5, .int .u64 y6, .int .u64 y7])).run Try.prog w = .ok (x0 == y0 && (x1 == y1 && (x2 == y2 && (x3 == y3 && (x4 == y4 && (x5 == y5 && (x6 == y6 && (x7 == y7)))))))) w := by
  refine eqI_of (d := d + 1) Try.underlying33 (by kernel_rfl) ?_
  refine eqI_cons (by kernel_rfl) Try.underlying25 rfl rfl ?_
  refine eqI_cons (by kernel_rfl) Try.underlying25 rfl rfl ?_
  refine eqI_cons (by kernel_rfl) Try.underlying25 rfl rfl ?_
  refine eqI_cons (by kernel_rfl) Try.underlying25 rfl rfl ?_
  refine eqI_cons (by kernel_rfl) Try.underlying25 rfl rfl ?_
  refine eqI_cons (by kernel_rfl) Try.underlying25 rfl rfl ?_
  refine eqI_cons (by kernel_rfl) Try.underlying25 rfl rfl ?_
  exact eqI_last (by kernel_rfl) Try.underlying25 rfl rfl
end Go.Proofs.Ytnhlnbpkpalgdaa.G
