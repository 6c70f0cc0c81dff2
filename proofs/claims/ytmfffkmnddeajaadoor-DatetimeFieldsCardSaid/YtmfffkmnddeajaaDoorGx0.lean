/- Written by a program of this session for this seat: contracts of the functions that its laws reach, or the row of a law over its plain part. -/
import Derived.Test.YtmfffkmnddeajaaDoorProg
import Derived.Below
import Derived.Deep.Draws
import Derived.Deep.AppendLies
import Derived.Maps.AppendAt
import Derived.OwnWalk
import Derived.Laws.BytesArg
import Derived.Laws.MakeOwn
import Derived.Laws.OwnMore
import Derived.Deep.OwnRows
import Derived.Tactics
import Derived.Lib.ConvBytes
import Derived.Laws.Slices
import Derived.WalkKit
import Derived.KernelRfl
import Derived.RowKit3
import Derived.Deep.LoopGhost
import Derived.Deep.QuietTactic
import Derived.BigQuiet
import Derived.WideLaws
import Derived.Deep.DeepCutAuto
import Derived.Deep.CutBlock
import Derived.Deep.RegionHeld3
import Derived.Laws.Rows
import Derived.Lib.AppendStr
import Derived.ArgAppend
import Derived.Laws.IdiomCopy
import Derived.OrdersHeld
import Derived.Laws.BitsLemmas
import Derived.RowKit
import Derived.Test.YtmfffkmnddeajaaDoorWWords
import Derived.Test.YtmfffkmnddeajaaDoorWLast
import Derived.Test.YtmfffkmnddeajaaDoorWTab
import Derived.Test.YtmfffkmnddeajaaDoorWFour
import Derived.Test.YtmfffkmnddeajaaDoorWQPut
import Derived.Test.YtmfffkmnddeajaaDoorWApart
import Derived.Test.YtmfffkmnddeajaaDoorWArr
import Derived.Test.YtmfffkmnddeajaaDoorWZeros
import Derived.Test.YtmfffkmnddeajaaDoorWFoot
import Derived.Test.YtmfffkmnddeajaaDoorWKept
import Derived.Test.YtmfffkmnddeajaaDoorWShare
import Derived.Test.YtmfffkmnddeajaaDoorWN
import Derived.Test.YtmfffkmnddeajaaDoorWFootNe
import Derived.Test.YtmfffkmnddeajaaDoorWAt
import Derived.Test.YtmfffkmnddeajaaDoorWEqStruct
import Derived.Test.YtmfffkmnddeajaaDoorWRepsOne
import Derived.Test.YtmfffkmnddeajaaDoorWInv
import Derived.Test.YtmfffkmnddeajaaDoorWInvWords
import Derived.Test.YtmfffkmnddeajaaDoorWGuard
import Derived.Test.YtmfffkmnddeajaaDoorWNEv
import Derived.Test.YtmfffkmnddeajaaDoorWMore
import Derived.Test.YtmfffkmnddeajaaDoorOwn
namespace Go.Proofs.YtmfffkmnddeajaaDoor.G
open Go.RowKit Go.Proofs.YtmfffkmnddeajaaDoorW.PrintWords Go.Proofs.YtmfffkmnddeajaaDoorW.PrintLast Go.Proofs.YtmfffkmnddeajaaDoorW.PrintMore
attribute [local go_sem] max2_int min2_int max_two min_two max_three min_three max_four min_four   -- for this text's walks alone
set_option linter.unusedVariables false
set_option linter.unusedSimpArgs false



def errW : Option Int → Value
  | none => .nilIface
  | some c => .iface 0 (.int .i64 c)
theorem errW_none : errW none = .nilIface := rfl
theorem errW_some (c : Int) : errW (some c) = .iface 0 (.int .i64 c) := rfl

-- the values' own types

end Go.Proofs.YtmfffkmnddeajaaDoor.G
