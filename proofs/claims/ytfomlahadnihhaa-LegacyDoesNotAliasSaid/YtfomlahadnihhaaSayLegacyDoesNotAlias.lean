/- The pure statement of the law 'LegacyDoesNotAlias'. -/
import Derived.Test.YtfomlahadnihhaaOpn
import Derived.Test.YtfomlahadnihhaaGx20
set_option linter.unusedVariables false
namespace Go.Proofs.Ytfomlahadnihhaa.Opn
open Go Go.ChangeShapes Go.WideShapes Go.RowKit Go.Proofs.YtfomlahadnihhaaW.PrintWords Go.Proofs.Ytfomlahadnihhaa.G
def LegacyDoesNotAlias : Prop := ∀ (l0_0 : List (Int)) (l0_1 : List (Int)) (l0_2 : List (S38)) (l0_3 : List (Int)) (l0_4 : List (S42)) (l0_5 : List (Bool)) (l0_6 : List (Bool)) (w0_0 : l0_0.length ≤ 9223372036854775807 ∧ ∀ y ∈ l0_0, (Lit.int .i64 y).wf = true) (w0_1 : l0_1.length ≤ 9223372036854775807 ∧ ∀ y ∈ l0_1, (Lit.int .u8 y).wf = true) (w0_2 : l0_2.length ≤ 9223372036854775807 ∧ ∀ y ∈ l0_2, Wf38 y) (w0_3 : l0_3.length ≤ 9223372036854775807 ∧ ∀ y ∈ l0_3, (Lit.int .u8 y).wf = true) (w0_4 : l0_4.length ≤ 9223372036854775807 ∧ ∀ y ∈ l0_4, Wf42 y) (w0_5 : l0_5.length ≤ 9223372036854775807) (w0_6 : l0_6.length ≤ 9223372036854775807), ∃ k, zoneinfolaw22_LegacyDoesNotAlias.f k l0_0 l0_1 l0_2 l0_3 l0_4 l0_5 l0_6 = some true
end Go.Proofs.Ytfomlahadnihhaa.Opn
