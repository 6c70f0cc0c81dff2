/- The pure statement of the law 'CursorUintIsTake'. -/
import Derived.Test.YtjpgfalejadblaaOpn
import Derived.Test.YtjpgfalejadblaaGx24
set_option linter.unusedVariables false
namespace Go.Proofs.Ytjpgfalejadblaa.Opn
open Go Go.ChangeShapes Go.WideShapes Go.RowKit Go.Proofs.YtjpgfalejadblaaW.PrintWords Go.Proofs.Ytjpgfalejadblaa.G
def CursorUintIsTake : Prop := ∀ (l0_0 : List (Int)) (a0_1 : Int) (a0_2 : Int) (a0_3 : Int) (a1 : Int) (w0_0 : l0_0.length ≤ 9223372036854775807 ∧ ∀ y ∈ l0_0, (Lit.int .u8 y).wf = true) (w0_1 : (Lit.int .i64 a0_1).wf = true) (w0_2 : (Lit.int .i64 a0_2).wf = true) (w0_3 : (Lit.int .i64 a0_3).wf = true) (w1 : (Lit.int .u8 a1).wf = true), ∃ k, zoneinfolaw02_CursorUintIsTake.f k l0_0 a0_1 a0_2 a0_3 a1 = some true
end Go.Proofs.Ytjpgfalejadblaa.Opn
