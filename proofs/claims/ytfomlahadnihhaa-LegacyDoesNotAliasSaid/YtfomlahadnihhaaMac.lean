/- Written by a program of this session for this seat: facts of a world told of a later one. -/
import Derived.Test.YtfomlahadnihhaaProg
import Derived.Below
import Derived.Deep.Draws
import Derived.Deep.AppendLies
import Derived.Maps.AppendAt
import Derived.OwnWalk
import Derived.Laws.BytesArg
import Derived.Laws.MakeOwn
import Derived.Laws.OwnMore
import Derived.Deep.OwnRows
import Derived.Tactics
import Derived.Lib.ConvBytes
import Derived.Laws.Slices
import Derived.WalkKit
import Derived.KernelRfl
import Derived.RowKit3
import Derived.Deep.LoopGhost
import Derived.Deep.QuietTactic
import Derived.BigQuiet
import Derived.WideLaws
import Derived.Deep.DeepCutAuto
import Derived.Deep.CutBlock
import Derived.Deep.RegionHeld3
import Derived.Laws.Rows
import Derived.Lib.AppendStr
import Derived.ArgAppend
import Derived.Laws.IdiomCopy
import Derived.OrdersHeld
import Derived.Laws.BitsLemmas
import Derived.RowKit
import Derived.Lib.SliceRun
import Derived.Test.YtfomlahadnihhaaShelf
import Derived.Test.YtfomlahadnihhaaWWords
import Derived.Test.YtfomlahadnihhaaWLast
import Derived.Test.YtfomlahadnihhaaWTab
import Derived.Test.YtfomlahadnihhaaWQPut
import Derived.Test.YtfomlahadnihhaaWApart
import Derived.Test.YtfomlahadnihhaaWArr
import Derived.Test.YtfomlahadnihhaaWZeros
import Derived.Test.YtfomlahadnihhaaWFoot
import Derived.Test.YtfomlahadnihhaaWKept
import Derived.Test.YtfomlahadnihhaaWShare
import Derived.Test.YtfomlahadnihhaaWN
import Derived.Test.YtfomlahadnihhaaWEqStruct
import Derived.Test.YtfomlahadnihhaaWRepsOne
import Derived.Test.YtfomlahadnihhaaWGuard
import Derived.Test.YtfomlahadnihhaaWNEv
import Derived.Test.YtfomlahadnihhaaWMore
import Derived.Test.YtfomlahadnihhaaOwn
namespace Go.Proofs.Ytfomlahadnihhaa.G
open Go.RowKit Go.Proofs.YtfomlahadnihhaaW.PrintWords Go.Proofs.YtfomlahadnihhaaW.PrintLast Go.Proofs.YtfomlahadnihhaaW.PrintMore
theorem rv_ {α : Type} {d : Kd α} {e : Nat} {w w1 : World} {base : Nat} {ok : Nat → Prop} {v : Value} {xs : List α} (h : d.R e w base ok v xs) (hb : Below w.heap.size w w1 := by (with_reducible repeat (first | apply below_alloc | apply pw_below_drewN | apply below_drew1)); exact Below.refl _ _) : d.R e w1 base ok v xs := Kd.R_below h hb
theorem cv_ {α : Type} {d : Kd α} {w w1 : World} {A : Option Addr} {n : Nat} {xs : List α} (h : d.C w A n xs) (hb : Below w.heap.size w w1 := by (with_reducible repeat (first | apply below_alloc | apply pw_below_drewN | apply below_drew1)); exact Below.refl _ _) : d.C w1 A n xs := Kd.C_below h hb
theorem bv_ {w w1 : World} {g : Nat} {o : Obj} (h : w.heap[g]? = some o) (hb : Below w.heap.size w w1 := by (with_reducible repeat (first | apply below_alloc | apply pw_below_drewN | apply below_drew1)); exact Below.refl _ _) : w1.heap[g]? = some o := blk_below h hb
end Go.Proofs.Ytfomlahadnihhaa.G
