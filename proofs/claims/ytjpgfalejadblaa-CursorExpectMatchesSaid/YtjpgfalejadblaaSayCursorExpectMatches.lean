/- The pure statement of the law 'CursorExpectMatches'. -/
import Derived.Test.YtjpgfalejadblaaOpn
import Derived.Test.YtjpgfalejadblaaGx20
set_option linter.unusedVariables false
namespace Go.Proofs.Ytjpgfalejadblaa.Opn
open Go Go.ChangeShapes Go.WideShapes Go.RowKit Go.Proofs.YtjpgfalejadblaaW.PrintWords Go.Proofs.Ytjpgfalejadblaa.G
def CursorExpectMatches : Prop := ∀ (l0_0 : List (Int)) (a0_1 : Int) (a0_2 : Int) (a0_3 : Int) (a1 : Int) (a2 : Int) (a3 : Int) (w0_0 : l0_0.length ≤ 9223372036854775807 ∧ ∀ y ∈ l0_0, (Lit.int .u8 y).wf = true) (w0_1 : (Lit.int .i64 a0_1).wf = true) (w0_2 : (Lit.int .i64 a0_2).wf = true) (w0_3 : (Lit.int .i64 a0_3).wf = true) (w1 : (Lit.int .u8 a1).wf = true) (w2 : (Lit.int .u8 a2).wf = true) (w3 : (Lit.int .u8 a3).wf = true), ∃ k, zoneinfolaw02_CursorExpectMatches.f k l0_0 a0_1 a0_2 a0_3 a1 a2 a3 = some true
end Go.Proofs.Ytjpgfalejadblaa.Opn
