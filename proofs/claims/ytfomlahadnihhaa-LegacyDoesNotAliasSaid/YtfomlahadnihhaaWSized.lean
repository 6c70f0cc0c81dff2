-- Cut by shake.py from this seat's printed words: what the seat's texts name.
import Derived.SizedLaws
import Derived.ChangeSlices
namespace Go.Proofs.YtfomlahadnihhaaW.PrintWords
open Go.ChangeShapes Go.WideShapes
end Go.Proofs.YtfomlahadnihhaaW.PrintWords
