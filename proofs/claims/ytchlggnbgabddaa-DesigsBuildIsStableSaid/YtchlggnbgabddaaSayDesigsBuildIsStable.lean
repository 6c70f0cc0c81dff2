/- The pure statement of the law 'DesigsBuildIsStable'. -/
import Derived.Test.YtchlggnbgabddaaOpn
import Derived.Test.YtchlggnbgabddaaGx30
set_option linter.unusedVariables false
namespace Go.Proofs.Ytchlggnbgabddaa.Opn
open Go Go.ChangeShapes Go.WideShapes Go.RowKit Go.Proofs.YtchlggnbgabddaaW.PrintWords Go.Proofs.Ytchlggnbgabddaa.G
def DesigsBuildIsStable : Prop := ∀ (l0 : List (ByteArray)) (l1 : List (ByteArray)) (w0 : l0.length ≤ 9223372036854775807 ∧ ∀ y ∈ l0, y.size ≤ 9223372036854775807) (w1 : l1.length ≤ 9223372036854775807 ∧ ∀ y ∈ l1, y.size ≤ 9223372036854775807), ∃ k, zoneinfolaw12_DesigsBuildIsStable.f k l0 l1 = some true
end Go.Proofs.Ytchlggnbgabddaa.Opn
