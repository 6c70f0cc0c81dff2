/- Written by a program of this session for this seat: contracts of the functions that its laws reach, or the row of a law over its plain part. -/
import Derived.Test.YtljompndopfflaaProg
import Derived.Below
import Derived.Deep.Draws
import Derived.Deep.AppendLies
import Derived.Maps.AppendAt
import Derived.OwnWalk
import Derived.Laws.BytesArg
import Derived.Laws.MakeOwn
import Derived.Laws.OwnMore
import Derived.Deep.OwnRows
import Derived.Tactics
import Derived.Lib.ConvBytes
import Derived.Laws.Slices
import Derived.WalkKit
import Derived.KernelRfl
import Derived.RowKit3
import Derived.Deep.LoopGhost
import Derived.Deep.QuietTactic
import Derived.BigQuiet
import Derived.WideLaws
import Derived.Deep.DeepCutAuto
import Derived.Deep.CutBlock
import Derived.Deep.RegionHeld3
import Derived.Laws.Rows
import Derived.Lib.AppendStr
import Derived.ArgAppend
import Derived.Laws.IdiomCopy
import Derived.OrdersHeld
import Derived.Laws.BitsLemmas
import Derived.RowKit
import Derived.Test.YtljompndopfflaaWWords
import Derived.Test.YtljompndopfflaaWLast
import Derived.Test.YtljompndopfflaaWTab
import Derived.Test.YtljompndopfflaaWFour
import Derived.Test.YtljompndopfflaaWQPut
import Derived.Test.YtljompndopfflaaWApart
import Derived.Test.YtljompndopfflaaWArr
import Derived.Test.YtljompndopfflaaWZeros
import Derived.Test.YtljompndopfflaaWFoot
import Derived.Test.YtljompndopfflaaWKept
import Derived.Test.YtljompndopfflaaWShare
import Derived.Test.YtljompndopfflaaWN
import Derived.Test.YtljompndopfflaaWFootNe
import Derived.Test.YtljompndopfflaaWAt
import Derived.Test.YtljompndopfflaaWEqStruct
import Derived.Test.YtljompndopfflaaWRepsOne
import Derived.Test.YtljompndopfflaaWInv
import Derived.Test.YtljompndopfflaaWInvWords
import Derived.Test.YtljompndopfflaaWGuard
import Derived.Test.YtljompndopfflaaWNEv
import Derived.Test.YtljompndopfflaaWMore
import Derived.Test.YtljompndopfflaaOwn
namespace Go.Proofs.Ytljompndopfflaa.G
open Go.RowKit Go.Proofs.YtljompndopfflaaW.PrintWords Go.Proofs.YtljompndopfflaaW.PrintLast Go.Proofs.YtljompndopfflaaW.PrintMore
attribute [local go_sem] max2_int min2_int max_two min_two max_three min_three max_four min_four   -- for this text's walks alone
set_option linter.unusedVariables false
set_option linter.unusedSimpArgs false



def errW : Option Int → Value
  | none => .nilIface
  | some c => .iface 0 (.int .i64 c)
theorem errW_none : errW none = .nilIface := rfl
theorem errW_some (c : Int) : errW (some c) = .iface 0 (.int .i64 c) := rfl

theorem info22 : (Try.prog.info? 22).map (fun i => (i.zero, i.size, i.bytes)) = some (some (.int .u64 0), 1, 8) := by kernel_rfl
-- the values' own types

end Go.Proofs.Ytljompndopfflaa.G
