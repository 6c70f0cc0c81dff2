/-
  No cell of these rows narrows 'for every input' (looked for: loops, veiled, ifaces, maps, wideKeys, modest, calm, conditions, laid).
  DERIVED. THE GIVEN ROWS OF THIS SEAT. 4 by the template 'for every input the law returns true; each argument reads behind the call as it read before'; 0 by the template 'total and deterministic' (their statements: YtjpgfalejadblaaTotals.lean).
  GIVEN WITH THE SEED: the statements are not yours to turn. If you find one false, say at which input.
  Laid BY PROGRAM, IN A SANDBOX (cutbox-rows.mjs): the forced cells as the released guide's own fill.sh prints them over the translation a79244a4b95be71c… (all of the seat's roots in one cut). By AI agents, Wed Nov 11 2026. No macro, syntax, notation, axiom, sorry.
-/
import Derived.Test.YtjpgfalejadblaaChecked
import GoSem.Claim
import GoSem.ClaimJoined
import GoSem.ClaimMapViews
import Derived.JoinedTies
import Derived.KernelRfl
namespace Go.Proofs.Ytjpgfalejadblaa
/- THE CELL 'sum', in the pinned program and in every row, IS THE sha256 OF THE DUMP (.gsa) THAT YtjpgfalejadblaaProg.lean LOADS. Nothing in Lean hashes anything: it is a label: what it is worth is what the hold of that sum in a sandbox is worth. -/
noncomputable def Try.pinned : Pinned := { name := "ytjpgfalejadblaa", sum := "a79244a4b95be71c7ff66f55e595bce76fadf6d726b41f2e56afd7cefcaaf10a", checked := Try.checked }
namespace Rows
def none {H : Type} : Left H := { results := [], args := [] }

/-- 'zoneinfolaw02.CursorReadsInOrder': WHATEVER THE INPUT: true; the input reads as it did. -/
def cursorReadsInOrderSpec : ChangeSpec := { name := "cursorReadsInOrder", fn := fun _ => fun
  | [d1, d2] => { results := [.lit (.bool true)], args := [d1, d2] }
  | _ => none }
def cursorReadsInOrderRow : OpenClaim := { program := "ytjpgfalejadblaa", sum := "a79244a4b95be71c7ff66f55e595bce76fadf6d726b41f2e56afd7cefcaaf10a", func := "zoneinfo/zoneinfolaw02.CursorReadsInOrder", spec := "cursorReadsInOrder", unfollowed := true, recurses := true, apart := false }
def CursorReadsInOrderSaid : Prop := cursorReadsInOrderRow.holds Try.pinned (OpenSpec.ofChange cursorReadsInOrderSpec)

/-- ITS FALSE NEIGHBOUR: 'it returns false'. Refute it at one input. -/
def cursorReadsInOrderWrong : ChangeSpec := { name := "cursorReadsInOrder", fn := fun _ => fun
  | [d1, d2] => { results := [.lit (.bool false)], args := [d1, d2] }
  | _ => none }
def CursorReadsInOrderWrongFalsely : Prop := cursorReadsInOrderRow.holds Try.pinned (OpenSpec.ofChange cursorReadsInOrderWrong)

/-- 'zoneinfolaw02.CursorStopsAtFirstError': WHATEVER THE INPUT: true; the input reads as it did. -/
def cursorStopsAtFirstErrorSpec : ChangeSpec := { name := "cursorStopsAtFirstError", fn := fun _ => fun
  | [d1, d2, d3, d4] => { results := [.lit (.bool true)], args := [d1, d2, d3, d4] }
  | _ => none }
def cursorStopsAtFirstErrorRow : OpenClaim := { program := "ytjpgfalejadblaa", sum := "a79244a4b95be71c7ff66f55e595bce76fadf6d726b41f2e56afd7cefcaaf10a", func := "zoneinfo/zoneinfolaw02.CursorStopsAtFirstError", spec := "cursorStopsAtFirstError", unfollowed := true, recurses := true, apart := false }
def CursorStopsAtFirstErrorSaid : Prop := cursorStopsAtFirstErrorRow.holds Try.pinned (OpenSpec.ofChange cursorStopsAtFirstErrorSpec)

/-- ITS FALSE NEIGHBOUR: 'it returns false'. Refute it at one input. -/
def cursorStopsAtFirstErrorWrong : ChangeSpec := { name := "cursorStopsAtFirstError", fn := fun _ => fun
  | [d1, d2, d3, d4] => { results := [.lit (.bool false)], args := [d1, d2, d3, d4] }
  | _ => none }
def CursorStopsAtFirstErrorWrongFalsely : Prop := cursorStopsAtFirstErrorRow.holds Try.pinned (OpenSpec.ofChange cursorStopsAtFirstErrorWrong)

/-- 'zoneinfolaw02.CursorExpectMatches': WHATEVER THE INPUT: true; the input reads as it did. -/
def cursorExpectMatchesSpec : ChangeSpec := { name := "cursorExpectMatches", fn := fun _ => fun
  | [d1, d2, d3, d4] => { results := [.lit (.bool true)], args := [d1, d2, d3, d4] }
  | _ => none }
def cursorExpectMatchesRow : OpenClaim := { program := "ytjpgfalejadblaa", sum := "a79244a4b95be71c7ff66f55e595bce76fadf6d726b41f2e56afd7cefcaaf10a", func := "zoneinfo/zoneinfolaw02.CursorExpectMatches", spec := "cursorExpectMatches", unfollowed := true, recurses := true, apart := false }
def CursorExpectMatchesSaid : Prop := cursorExpectMatchesRow.holds Try.pinned (OpenSpec.ofChange cursorExpectMatchesSpec)

/-- ITS FALSE NEIGHBOUR: 'it returns false'. Refute it at one input. -/
def cursorExpectMatchesWrong : ChangeSpec := { name := "cursorExpectMatches", fn := fun _ => fun
  | [d1, d2, d3, d4] => { results := [.lit (.bool false)], args := [d1, d2, d3, d4] }
  | _ => none }
def CursorExpectMatchesWrongFalsely : Prop := cursorExpectMatchesRow.holds Try.pinned (OpenSpec.ofChange cursorExpectMatchesWrong)

/-- 'zoneinfolaw02.CursorUintIsTake': WHATEVER THE INPUT: true; the input reads as it did. -/
def cursorUintIsTakeSpec : ChangeSpec := { name := "cursorUintIsTake", fn := fun _ => fun
  | [d1, d2] => { results := [.lit (.bool true)], args := [d1, d2] }
  | _ => none }
def cursorUintIsTakeRow : OpenClaim := { program := "ytjpgfalejadblaa", sum := "a79244a4b95be71c7ff66f55e595bce76fadf6d726b41f2e56afd7cefcaaf10a", func := "zoneinfo/zoneinfolaw02.CursorUintIsTake", spec := "cursorUintIsTake", unfollowed := true, recurses := true, apart := false }
def CursorUintIsTakeSaid : Prop := cursorUintIsTakeRow.holds Try.pinned (OpenSpec.ofChange cursorUintIsTakeSpec)

/-- ITS FALSE NEIGHBOUR: 'it returns false'. Refute it at one input. -/
def cursorUintIsTakeWrong : ChangeSpec := { name := "cursorUintIsTake", fn := fun _ => fun
  | [d1, d2] => { results := [.lit (.bool false)], args := [d1, d2] }
  | _ => none }
def CursorUintIsTakeWrongFalsely : Prop := cursorUintIsTakeRow.holds Try.pinned (OpenSpec.ofChange cursorUintIsTakeWrong)

/- THE SECOND FORM. 'bulk': how many values and letters a reading holds, each counted each time it is reached (what is shared counts as often as it is met; a slice's spare places count too). A statement '..UptoSaid' is the law's where the arguments, and the package variables that the reading takes, are together of bulk at most 1048576: NARROWER than '..Said'. Prove '..Said' where nothing that the law and all that it calls make is longer than what came in: it says more and counts as full. Else prove '..UptoSaid'. A law counts once. -/
mutual
def uptoBulk {H : Type} : DataW H → Nat
  | .lit (.string bytes) => bytes.length + 1
  | .lit _ => 1
  | .nil => 1
  | .ptr d => uptoBulk d + 1
  | .slice elems spare => uptoBulkAll elems + uptoBulkAll spare + 1
  | .agg parts => uptoBulkAll parts + 1
  | .iface _ d => uptoBulk d + 1
  | .map entries => uptoBulkEntries entries + 1
  | .held _ => 1
def uptoBulkAll {H : Type} : List (DataW H) → Nat
  | [] => 0
  | d :: r => uptoBulk d + uptoBulkAll r
def uptoBulkEntries {H : Type} : List (Lit × DataW H) → Nat
  | [] => 0
  | x :: r => uptoBulkEntry x + uptoBulkEntries r
def uptoBulkEntry {H : Type} : Lit × DataW H → Nat
  | (.string bytes, d) => bytes.length + uptoBulk d + 1
  | (_, d) => uptoBulk d + 1
 end
def uptoSmall : (H : Type) → List (DataW H) → Bool := fun _ ds => decide (uptoBulkAll ds ≤ 1048576)
def OpenSpec.upto (s : _root_.Go.ChangeSpec) : _root_.Go.OpenSpec := { _root_.Go.OpenSpec.ofChange s with cond := some uptoSmall }

/-- 'zoneinfolaw02.CursorReadsInOrder', WHERE WHAT IT READS IS OF BULK AT MOST 1048576: true; the input reads as it did. -/
def cursorReadsInOrderUptoRow : OpenClaim := { program := "ytjpgfalejadblaa", sum := "a79244a4b95be71c7ff66f55e595bce76fadf6d726b41f2e56afd7cefcaaf10a", func := "zoneinfo/zoneinfolaw02.CursorReadsInOrder", spec := "cursorReadsInOrder", unfollowed := true, recurses := true, apart := false, narrowed := true }
def CursorReadsInOrderUptoSaid : Prop := cursorReadsInOrderUptoRow.holds Try.pinned (OpenSpec.upto cursorReadsInOrderSpec)

/-- 'zoneinfolaw02.CursorStopsAtFirstError', WHERE WHAT IT READS IS OF BULK AT MOST 1048576: true; the input reads as it did. -/
def cursorStopsAtFirstErrorUptoRow : OpenClaim := { program := "ytjpgfalejadblaa", sum := "a79244a4b95be71c7ff66f55e595bce76fadf6d726b41f2e56afd7cefcaaf10a", func := "zoneinfo/zoneinfolaw02.CursorStopsAtFirstError", spec := "cursorStopsAtFirstError", unfollowed := true, recurses := true, apart := false, narrowed := true }
def CursorStopsAtFirstErrorUptoSaid : Prop := cursorStopsAtFirstErrorUptoRow.holds Try.pinned (OpenSpec.upto cursorStopsAtFirstErrorSpec)

/-- 'zoneinfolaw02.CursorExpectMatches', WHERE WHAT IT READS IS OF BULK AT MOST 1048576: true; the input reads as it did. -/
def cursorExpectMatchesUptoRow : OpenClaim := { program := "ytjpgfalejadblaa", sum := "a79244a4b95be71c7ff66f55e595bce76fadf6d726b41f2e56afd7cefcaaf10a", func := "zoneinfo/zoneinfolaw02.CursorExpectMatches", spec := "cursorExpectMatches", unfollowed := true, recurses := true, apart := false, narrowed := true }
def CursorExpectMatchesUptoSaid : Prop := cursorExpectMatchesUptoRow.holds Try.pinned (OpenSpec.upto cursorExpectMatchesSpec)

/-- 'zoneinfolaw02.CursorUintIsTake', WHERE WHAT IT READS IS OF BULK AT MOST 1048576: true; the input reads as it did. -/
def cursorUintIsTakeUptoRow : OpenClaim := { program := "ytjpgfalejadblaa", sum := "a79244a4b95be71c7ff66f55e595bce76fadf6d726b41f2e56afd7cefcaaf10a", func := "zoneinfo/zoneinfolaw02.CursorUintIsTake", spec := "cursorUintIsTake", unfollowed := true, recurses := true, apart := false, narrowed := true }
def CursorUintIsTakeUptoSaid : Prop := cursorUintIsTakeUptoRow.holds Try.pinned (OpenSpec.upto cursorUintIsTakeSpec)

end Rows
end Go.Proofs.Ytjpgfalejadblaa
