/-
  No cell of these rows narrows 'for every input' (looked for: loops, veiled, ifaces, maps, wideKeys, modest, calm, conditions, laid).
  DERIVED. THE GIVEN ROWS OF THIS SEAT. 4 by the template 'for every input the law returns true; each argument reads behind the call as it read before'; 0 by the template 'total and deterministic' (their statements: YtcghocecejgeiaaTotals.lean).
  GIVEN WITH THE SEED: the statements are not yours to turn. If you find one false, say at which input.
  Laid BY PROGRAM, IN A SANDBOX (cutbox-rows.mjs): the forced cells as the released guide's own fill.sh prints them over the translation aea65d9cb0c618cd… (all of the seat's roots in one cut). By AI agents, Wed Nov 11 2026. No macro, syntax, notation, axiom, sorry.
-/
import Derived.Test.YtcghocecejgeiaaChecked
import GoSem.Claim
import GoSem.ClaimJoined
import GoSem.ClaimMapViews
import Derived.JoinedTies
import Derived.KernelRfl
namespace Go.Proofs.Ytcghocecejgeiaa
/- THE CELL 'sum', in the pinned program and in every row, IS THE sha256 OF THE DUMP (.gsa) THAT YtcghocecejgeiaaProg.lean LOADS. Nothing in Lean hashes anything: it is a label: what it is worth is what the hold of that sum in a sandbox is worth. -/
noncomputable def Try.pinned : Pinned := { name := "ytcghocecejgeiaa", sum := "aea65d9cb0c618cdb47732343e62ca1e2e613da5c910b6d7f8222324fe156d4d", checked := Try.checked }
namespace Rows
def none {H : Type} : Left H := { results := [], args := [] }

/-- 'zoneinfolaw15.TransitionsMatchReference': WHATEVER THE INPUT: true; the input reads as it did. -/
def transitionsMatchReferenceSpec : ChangeSpec := { name := "transitionsMatchReference", fn := fun _ => fun
  | [d1, d2, d3] => { results := [.lit (.bool true)], args := [d1, d2, d3] }
  | _ => none }
def transitionsMatchReferenceRow : OpenClaim := { program := "ytcghocecejgeiaa", sum := "aea65d9cb0c618cdb47732343e62ca1e2e613da5c910b6d7f8222324fe156d4d", func := "zoneinfo/zoneinfolaw15.TransitionsMatchReference", spec := "transitionsMatchReference", unfollowed := true, recurses := true, apart := false }
def TransitionsMatchReferenceSaid : Prop := transitionsMatchReferenceRow.holds Try.pinned (OpenSpec.ofChange transitionsMatchReferenceSpec)

/-- ITS FALSE NEIGHBOUR: 'it returns false'. Refute it at one input. -/
def transitionsMatchReferenceWrong : ChangeSpec := { name := "transitionsMatchReference", fn := fun _ => fun
  | [d1, d2, d3] => { results := [.lit (.bool false)], args := [d1, d2, d3] }
  | _ => none }
def TransitionsMatchReferenceWrongFalsely : Prop := transitionsMatchReferenceRow.holds Try.pinned (OpenSpec.ofChange transitionsMatchReferenceWrong)

/-- 'zoneinfolaw15.TransitionsRoundTrip': WHATEVER THE INPUT: true; the input reads as it did. -/
def transitionsRoundTripSpec : ChangeSpec := { name := "transitionsRoundTrip", fn := fun _ => fun
  | [d1, d2, d3] => { results := [.lit (.bool true)], args := [d1, d2, d3] }
  | _ => none }
def transitionsRoundTripRow : OpenClaim := { program := "ytcghocecejgeiaa", sum := "aea65d9cb0c618cdb47732343e62ca1e2e613da5c910b6d7f8222324fe156d4d", func := "zoneinfo/zoneinfolaw15.TransitionsRoundTrip", spec := "transitionsRoundTrip", unfollowed := true, recurses := true, apart := false }
def TransitionsRoundTripSaid : Prop := transitionsRoundTripRow.holds Try.pinned (OpenSpec.ofChange transitionsRoundTripSpec)

/-- ITS FALSE NEIGHBOUR: 'it returns false'. Refute it at one input. -/
def transitionsRoundTripWrong : ChangeSpec := { name := "transitionsRoundTrip", fn := fun _ => fun
  | [d1, d2, d3] => { results := [.lit (.bool false)], args := [d1, d2, d3] }
  | _ => none }
def TransitionsRoundTripWrongFalsely : Prop := transitionsRoundTripRow.holds Try.pinned (OpenSpec.ofChange transitionsRoundTripWrong)

/-- 'zoneinfolaw15.TransitionsDescent': WHATEVER THE INPUT: true; the input reads as it did. -/
def transitionsDescentSpec : ChangeSpec := { name := "transitionsDescent", fn := fun _ => fun
  | [d1, d2] => { results := [.lit (.bool true)], args := [d1, d2] }
  | _ => none }
def transitionsDescentRow : OpenClaim := { program := "ytcghocecejgeiaa", sum := "aea65d9cb0c618cdb47732343e62ca1e2e613da5c910b6d7f8222324fe156d4d", func := "zoneinfo/zoneinfolaw15.TransitionsDescent", spec := "transitionsDescent", unfollowed := true, recurses := true, apart := false }
def TransitionsDescentSaid : Prop := transitionsDescentRow.holds Try.pinned (OpenSpec.ofChange transitionsDescentSpec)

/-- ITS FALSE NEIGHBOUR: 'it returns false'. Refute it at one input. -/
def transitionsDescentWrong : ChangeSpec := { name := "transitionsDescent", fn := fun _ => fun
  | [d1, d2] => { results := [.lit (.bool false)], args := [d1, d2] }
  | _ => none }
def TransitionsDescentWrongFalsely : Prop := transitionsDescentRow.holds Try.pinned (OpenSpec.ofChange transitionsDescentWrong)

/-- 'zoneinfolaw15.TransitionsConcatenate': WHATEVER THE INPUT: true; the input reads as it did. -/
def transitionsConcatenateSpec : ChangeSpec := { name := "transitionsConcatenate", fn := fun _ => fun
  | [d1, d2, d3] => { results := [.lit (.bool true)], args := [d1, d2, d3] }
  | _ => none }
def transitionsConcatenateRow : OpenClaim := { program := "ytcghocecejgeiaa", sum := "aea65d9cb0c618cdb47732343e62ca1e2e613da5c910b6d7f8222324fe156d4d", func := "zoneinfo/zoneinfolaw15.TransitionsConcatenate", spec := "transitionsConcatenate", unfollowed := true, recurses := true, apart := false }
def TransitionsConcatenateSaid : Prop := transitionsConcatenateRow.holds Try.pinned (OpenSpec.ofChange transitionsConcatenateSpec)

/-- ITS FALSE NEIGHBOUR: 'it returns false'. Refute it at one input. -/
def transitionsConcatenateWrong : ChangeSpec := { name := "transitionsConcatenate", fn := fun _ => fun
  | [d1, d2, d3] => { results := [.lit (.bool false)], args := [d1, d2, d3] }
  | _ => none }
def TransitionsConcatenateWrongFalsely : Prop := transitionsConcatenateRow.holds Try.pinned (OpenSpec.ofChange transitionsConcatenateWrong)

/- THE SECOND FORM. 'bulk': how many values and letters a reading holds, each counted each time it is reached (what is shared counts as often as it is met; a slice's spare places count too). A statement '..UptoSaid' is the law's where the arguments, and the package variables that the reading takes, are together of bulk at most 1048576: NARROWER than '..Said'. Prove '..Said' where nothing that the law and all that it calls make is longer than what came in: it says more and counts as full. Else prove '..UptoSaid'. A law counts once. -/
mutual
def uptoBulk {H : Type} : DataW H → Nat
  | .lit (.string bytes) => bytes.length + 1
  | .lit _ => 1
  | .nil => 1
  | .ptr d => uptoBulk d + 1
  | .slice elems spare => uptoBulkAll elems + uptoBulkAll spare + 1
  | .agg parts => uptoBulkAll parts + 1
  | .iface _ d => uptoBulk d + 1
  | .map entries => uptoBulkEntries entries + 1
  | .held _ => 1
def uptoBulkAll {H : Type} : List (DataW H) → Nat
  | [] => 0
  | d :: r => uptoBulk d + uptoBulkAll r
def uptoBulkEntries {H : Type} : List (Lit × DataW H) → Nat
  | [] => 0
  | x :: r => uptoBulkEntry x + uptoBulkEntries r
def uptoBulkEntry {H : Type} : Lit × DataW H → Nat
  | (.string bytes, d) => bytes.length + uptoBulk d + 1
  | (_, d) => uptoBulk d + 1
 end
def uptoSmall : (H : Type) → List (DataW H) → Bool := fun _ ds => decide (uptoBulkAll ds ≤ 1048576)
def OpenSpec.upto (s : _root_.Go.ChangeSpec) : _root_.Go.OpenSpec := { _root_.Go.OpenSpec.ofChange s with cond := some uptoSmall }

/-- 'zoneinfolaw15.TransitionsMatchReference', WHERE WHAT IT READS IS OF BULK AT MOST 1048576: true; the input reads as it did. -/
def transitionsMatchReferenceUptoRow : OpenClaim := { program := "ytcghocecejgeiaa", sum := "aea65d9cb0c618cdb47732343e62ca1e2e613da5c910b6d7f8222324fe156d4d", func := "zoneinfo/zoneinfolaw15.TransitionsMatchReference", spec := "transitionsMatchReference", unfollowed := true, recurses := true, apart := false, narrowed := true }
def TransitionsMatchReferenceUptoSaid : Prop := transitionsMatchReferenceUptoRow.holds Try.pinned (OpenSpec.upto transitionsMatchReferenceSpec)

/-- 'zoneinfolaw15.TransitionsRoundTrip', WHERE WHAT IT READS IS OF BULK AT MOST 1048576: true; the input reads as it did. -/
def transitionsRoundTripUptoRow : OpenClaim := { program := "ytcghocecejgeiaa", sum := "aea65d9cb0c618cdb47732343e62ca1e2e613da5c910b6d7f8222324fe156d4d", func := "zoneinfo/zoneinfolaw15.TransitionsRoundTrip", spec := "transitionsRoundTrip", unfollowed := true, recurses := true, apart := false, narrowed := true }
def TransitionsRoundTripUptoSaid : Prop := transitionsRoundTripUptoRow.holds Try.pinned (OpenSpec.upto transitionsRoundTripSpec)

/-- 'zoneinfolaw15.TransitionsDescent', WHERE WHAT IT READS IS OF BULK AT MOST 1048576: true; the input reads as it did. -/
def transitionsDescentUptoRow : OpenClaim := { program := "ytcghocecejgeiaa", sum := "aea65d9cb0c618cdb47732343e62ca1e2e613da5c910b6d7f8222324fe156d4d", func := "zoneinfo/zoneinfolaw15.TransitionsDescent", spec := "transitionsDescent", unfollowed := true, recurses := true, apart := false, narrowed := true }
def TransitionsDescentUptoSaid : Prop := transitionsDescentUptoRow.holds Try.pinned (OpenSpec.upto transitionsDescentSpec)

/-- 'zoneinfolaw15.TransitionsConcatenate', WHERE WHAT IT READS IS OF BULK AT MOST 1048576: true; the input reads as it did. -/
def transitionsConcatenateUptoRow : OpenClaim := { program := "ytcghocecejgeiaa", sum := "aea65d9cb0c618cdb47732343e62ca1e2e613da5c910b6d7f8222324fe156d4d", func := "zoneinfo/zoneinfolaw15.TransitionsConcatenate", spec := "transitionsConcatenate", unfollowed := true, recurses := true, apart := false, narrowed := true }
def TransitionsConcatenateUptoSaid : Prop := transitionsConcatenateUptoRow.holds Try.pinned (OpenSpec.upto transitionsConcatenateSpec)

end Rows
end Go.Proofs.Ytcghocecejgeiaa
