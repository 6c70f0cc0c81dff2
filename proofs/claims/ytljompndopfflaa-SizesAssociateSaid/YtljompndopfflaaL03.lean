/- The fixed examples of layer 3. -/
import Derived.Test.YtljompndopfflaaWWords
import Derived.Test.YtljompndopfflaaWMore
import Derived.Test.YtljompndopfflaaOwn
import Derived.Test.YtljompndopfflaaGx6
import Derived.Test.YtljompndopfflaaBase
import Derived.Test.YtljompndopfflaaSiz
namespace Go.Proofs.Ytljompndopfflaa.Pure
open Go.RowKit Go.Proofs.Ytljompndopfflaa.G Go.Proofs.YtljompndopfflaaW.PrintWords Go.Proofs.YtljompndopfflaaW.PrintLast Go.Proofs.YtljompndopfflaaW.PrintMore
theorem awake03 (k : Nat) (hk : 20 ≤ k) : zoneinfolaw03_awake.f k = some true :=
  at_rounds (fun k => zoneinfolaw03_awake.mono k) hk (by decide +kernel)
end Go.Proofs.Ytljompndopfflaa.Pure
