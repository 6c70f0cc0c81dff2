/- The pure statement of the law 'DesigsMatchReference'. -/
import Derived.Test.YtchlggnbgabddaaOpn
import Derived.Test.YtchlggnbgabddaaGx26
set_option linter.unusedVariables false
namespace Go.Proofs.Ytchlggnbgabddaa.Opn
open Go Go.ChangeShapes Go.WideShapes Go.RowKit Go.Proofs.YtchlggnbgabddaaW.PrintWords Go.Proofs.Ytchlggnbgabddaa.G
def DesigsMatchReference : Prop := ∀ (l0 : List (Int)) (a1 : Int) (l2 : List (ByteArray)) (w0 : l0.length ≤ 9223372036854775807 ∧ ∀ y ∈ l0, (Lit.int .u8 y).wf = true) (w1 : (Lit.int .i64 a1).wf = true) (w2 : l2.length ≤ 9223372036854775807 ∧ ∀ y ∈ l2, y.size ≤ 9223372036854775807), ∃ k, zoneinfolaw12_DesigsMatchReference.f k l0 a1 l2 = some true
end Go.Proofs.Ytchlggnbgabddaa.Opn
