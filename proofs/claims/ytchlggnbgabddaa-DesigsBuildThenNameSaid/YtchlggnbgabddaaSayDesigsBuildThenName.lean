/- The pure statement of the law 'DesigsBuildThenName'. -/
import Derived.Test.YtchlggnbgabddaaOpn
import Derived.Test.YtchlggnbgabddaaGx27
set_option linter.unusedVariables false
namespace Go.Proofs.Ytchlggnbgabddaa.Opn
open Go Go.ChangeShapes Go.WideShapes Go.RowKit Go.Proofs.YtchlggnbgabddaaW.PrintWords Go.Proofs.Ytchlggnbgabddaa.G
def DesigsBuildThenName : Prop := ∀ (l0 : List (ByteArray)) (w0 : l0.length ≤ 9223372036854775807 ∧ ∀ y ∈ l0, y.size ≤ 9223372036854775807), ∃ k, zoneinfolaw12_DesigsBuildThenName.f k l0 = some true
end Go.Proofs.Ytchlggnbgabddaa.Opn
