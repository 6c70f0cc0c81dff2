-- Cut by shake.py from this seat's printed words: what the seat's texts name.
import Derived.Test.YtfomlahadnihhaaWWords
namespace Go.Proofs.YtfomlahadnihhaaW.PrintWords
open Go.RowKit
namespace Kd
end Kd
end Go.Proofs.YtfomlahadnihhaaW.PrintWords
