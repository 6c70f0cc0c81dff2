/- Written by a program of this session for this seat: contracts of the functions that its laws reach, or the row of a law over its plain part. -/
import Derived.Test.YtbiglbdanppjpaaDoorProg
import Derived.Below
import Derived.Deep.Draws
import Derived.Deep.AppendLies
import Derived.Maps.AppendAt
import Derived.OwnWalk
import Derived.Laws.BytesArg
import Derived.Laws.MakeOwn
import Derived.Laws.OwnMore
import Derived.Deep.OwnRows
import Derived.Tactics
import Derived.Lib.ConvBytes
import Derived.Laws.Slices
import Derived.WalkKit
import Derived.KernelRfl
import Derived.RowKit3
import Derived.Deep.LoopGhost
import Derived.Deep.QuietTactic
import Derived.BigQuiet
import Derived.WideLaws
import Derived.Deep.DeepCutAuto
import Derived.Deep.CutBlock
import Derived.Deep.RegionHeld3
import Derived.Laws.Rows
import Derived.Lib.AppendStr
import Derived.ArgAppend
import Derived.Laws.IdiomCopy
import Derived.OrdersHeld
import Derived.Laws.BitsLemmas
import Derived.RowKit
import Derived.Test.YtbiglbdanppjpaaDoorWWords
import Derived.Test.YtbiglbdanppjpaaDoorWLast
import Derived.Test.YtbiglbdanppjpaaDoorWTab
import Derived.Test.YtbiglbdanppjpaaDoorWFour
import Derived.Test.YtbiglbdanppjpaaDoorWQPut
import Derived.Test.YtbiglbdanppjpaaDoorWApart
import Derived.Test.YtbiglbdanppjpaaDoorWArr
import Derived.Test.YtbiglbdanppjpaaDoorWZeros
import Derived.Test.YtbiglbdanppjpaaDoorWFoot
import Derived.Test.YtbiglbdanppjpaaDoorWKept
import Derived.Test.YtbiglbdanppjpaaDoorWShare
import Derived.Test.YtbiglbdanppjpaaDoorWN
import Derived.Test.YtbiglbdanppjpaaDoorWFootNe
import Derived.Test.YtbiglbdanppjpaaDoorWAt
import Derived.Test.YtbiglbdanppjpaaDoorWEqStruct
import Derived.Test.YtbiglbdanppjpaaDoorWRepsOne
import Derived.Test.YtbiglbdanppjpaaDoorWInv
import Derived.Test.YtbiglbdanppjpaaDoorWInvWords
import Derived.Test.YtbiglbdanppjpaaDoorWGuard
import Derived.Test.YtbiglbdanppjpaaDoorWNEv
import Derived.Test.YtbiglbdanppjpaaDoorWMore
import Derived.Test.YtbiglbdanppjpaaDoorOwn
namespace Go.Proofs.YtbiglbdanppjpaaDoor.G
open Go.RowKit Go.Proofs.YtbiglbdanppjpaaDoorW.PrintWords Go.Proofs.YtbiglbdanppjpaaDoorW.PrintLast Go.Proofs.YtbiglbdanppjpaaDoorW.PrintMore
attribute [local go_sem] max2_int min2_int max_two min_two max_three min_three max_four min_four   -- for this text's walks alone
set_option linter.unusedVariables false
set_option linter.unusedSimpArgs false



def errW : Option Int → Value
  | none => .nilIface
  | some c => .iface 0 (.int .i64 c)
theorem errW_none : errW none = .nilIface := rfl
theorem errW_some (c : Int) : errW (some c) = .iface 0 (.int .i64 c) := rfl

theorem info4 : (Tryd.prog.info? 4).map (fun i => (i.zero, i.size, i.bytes)) = some (some (.bool false), 1, 1) := by kernel_rfl
theorem info5 : (Tryd.prog.info? 5).map (fun i => (i.zero, i.size, i.bytes)) = some (some (.int .u8 0), 1, 1) := by kernel_rfl
-- the values' own types

end Go.Proofs.YtbiglbdanppjpaaDoor.G
