/-
  No cell of these rows narrows 'for every input' (looked for: loops, veiled, ifaces, maps, wideKeys, modest, calm, conditions, laid).
  DERIVED. THE GIVEN ROWS OF THIS SEAT. 5 by the template 'for every input the law returns true; each argument reads behind the call as it read before'; 0 by the template 'total and deterministic' (their statements: YtljompndopfflaaTotals.lean).
  GIVEN WITH THE SEED: the statements are not yours to turn. If you find one false, say at which input.
  Laid BY PROGRAM, IN A SANDBOX (cutbox-rows.mjs): the forced cells as the released guide's own fill.sh prints them over the translation c53a0002a1c2aa52… (all of the seat's roots in one cut). By AI agents, Wed Nov 11 2026. No macro, syntax, notation, axiom, sorry.
-/
import Derived.Test.YtljompndopfflaaChecked
import GoSem.Claim
import GoSem.ClaimJoined
import GoSem.ClaimMapViews
import Derived.JoinedTies
import Derived.KernelRfl
namespace Go.Proofs.Ytljompndopfflaa
/- THE CELL 'sum', in the pinned program and in every row, IS THE sha256 OF THE DUMP (.gsa) THAT YtljompndopfflaaProg.lean LOADS. Nothing in Lean hashes anything: it is a label: what it is worth is what the hold of that sum in a sandbox is worth. -/
noncomputable def Try.pinned : Pinned := { name := "ytljompndopfflaa", sum := "c53a0002a1c2aa52845325ddd5487c71ed3d5e51a45f4fa85c7fb17a9bf0a581", checked := Try.checked }
namespace Rows
def none {H : Type} : Left H := { results := [], args := [] }

/-- 'zoneinfolaw03.SizesMatchReference': WHATEVER THE INPUT: true; the input reads as it did. -/
def sizesMatchReferenceSpec : ChangeSpec := { name := "sizesMatchReference", fn := fun _ => fun
  | [d1, d2, d3, d4, d5] => { results := [.lit (.bool true)], args := [d1, d2, d3, d4, d5] }
  | _ => none }
def sizesMatchReferenceRow : OpenClaim := { program := "ytljompndopfflaa", sum := "c53a0002a1c2aa52845325ddd5487c71ed3d5e51a45f4fa85c7fb17a9bf0a581", func := "zoneinfo/zoneinfolaw03.SizesMatchReference", spec := "sizesMatchReference", inPlace := ["math/bits.Add64"], apart := false }
def SizesMatchReferenceSaid : Prop := sizesMatchReferenceRow.holds Try.pinned (OpenSpec.ofChange sizesMatchReferenceSpec)

/-- ITS FALSE NEIGHBOUR: 'it returns false'. Refute it at one input. -/
def sizesMatchReferenceWrong : ChangeSpec := { name := "sizesMatchReference", fn := fun _ => fun
  | [d1, d2, d3, d4, d5] => { results := [.lit (.bool false)], args := [d1, d2, d3, d4, d5] }
  | _ => none }
def SizesMatchReferenceWrongFalsely : Prop := sizesMatchReferenceRow.holds Try.pinned (OpenSpec.ofChange sizesMatchReferenceWrong)

/-- 'zoneinfolaw03.SizesExact': WHATEVER THE INPUT: true; the input reads as it did. -/
def sizesExactSpec : ChangeSpec := { name := "sizesExact", fn := fun _ => fun
  | [d1, d2, d3] => { results := [.lit (.bool true)], args := [d1, d2, d3] }
  | _ => none }
def sizesExactRow : OpenClaim := { program := "ytljompndopfflaa", sum := "c53a0002a1c2aa52845325ddd5487c71ed3d5e51a45f4fa85c7fb17a9bf0a581", func := "zoneinfo/zoneinfolaw03.SizesExact", spec := "sizesExact", inPlace := ["math/bits.Add64"], apart := false }
def SizesExactSaid : Prop := sizesExactRow.holds Try.pinned (OpenSpec.ofChange sizesExactSpec)

/-- ITS FALSE NEIGHBOUR: 'it returns false'. Refute it at one input. -/
def sizesExactWrong : ChangeSpec := { name := "sizesExact", fn := fun _ => fun
  | [d1, d2, d3] => { results := [.lit (.bool false)], args := [d1, d2, d3] }
  | _ => none }
def SizesExactWrongFalsely : Prop := sizesExactRow.holds Try.pinned (OpenSpec.ofChange sizesExactWrong)

/-- 'zoneinfolaw03.SizesLimitIsMonotone': WHATEVER THE INPUT: true; the input reads as it did. -/
def sizesLimitIsMonotoneSpec : ChangeSpec := { name := "sizesLimitIsMonotone", fn := fun _ => fun
  | [d1, d2, d3, d4] => { results := [.lit (.bool true)], args := [d1, d2, d3, d4] }
  | _ => none }
def sizesLimitIsMonotoneRow : OpenClaim := { program := "ytljompndopfflaa", sum := "c53a0002a1c2aa52845325ddd5487c71ed3d5e51a45f4fa85c7fb17a9bf0a581", func := "zoneinfo/zoneinfolaw03.SizesLimitIsMonotone", spec := "sizesLimitIsMonotone", inPlace := ["math/bits.Add64"], apart := false }
def SizesLimitIsMonotoneSaid : Prop := sizesLimitIsMonotoneRow.holds Try.pinned (OpenSpec.ofChange sizesLimitIsMonotoneSpec)

/-- ITS FALSE NEIGHBOUR: 'it returns false'. Refute it at one input. -/
def sizesLimitIsMonotoneWrong : ChangeSpec := { name := "sizesLimitIsMonotone", fn := fun _ => fun
  | [d1, d2, d3, d4] => { results := [.lit (.bool false)], args := [d1, d2, d3, d4] }
  | _ => none }
def SizesLimitIsMonotoneWrongFalsely : Prop := sizesLimitIsMonotoneRow.holds Try.pinned (OpenSpec.ofChange sizesLimitIsMonotoneWrong)

/-- 'zoneinfolaw03.SizesTotalSplits': WHATEVER THE INPUT: true; the input reads as it did. -/
def sizesTotalSplitsSpec : ChangeSpec := { name := "sizesTotalSplits", fn := fun _ => fun
  | [d1, d2, d3, d4] => { results := [.lit (.bool true)], args := [d1, d2, d3, d4] }
  | _ => none }
def sizesTotalSplitsRow : OpenClaim := { program := "ytljompndopfflaa", sum := "c53a0002a1c2aa52845325ddd5487c71ed3d5e51a45f4fa85c7fb17a9bf0a581", func := "zoneinfo/zoneinfolaw03.SizesTotalSplits", spec := "sizesTotalSplits", inPlace := ["math/bits.Add64"], apart := false }
def SizesTotalSplitsSaid : Prop := sizesTotalSplitsRow.holds Try.pinned (OpenSpec.ofChange sizesTotalSplitsSpec)

/-- ITS FALSE NEIGHBOUR: 'it returns false'. Refute it at one input. -/
def sizesTotalSplitsWrong : ChangeSpec := { name := "sizesTotalSplits", fn := fun _ => fun
  | [d1, d2, d3, d4] => { results := [.lit (.bool false)], args := [d1, d2, d3, d4] }
  | _ => none }
def SizesTotalSplitsWrongFalsely : Prop := sizesTotalSplitsRow.holds Try.pinned (OpenSpec.ofChange sizesTotalSplitsWrong)

/-- 'zoneinfolaw03.SizesAssociate': WHATEVER THE INPUT: true; the input reads as it did. -/
def sizesAssociateSpec : ChangeSpec := { name := "sizesAssociate", fn := fun _ => fun
  | [d1, d2, d3] => { results := [.lit (.bool true)], args := [d1, d2, d3] }
  | _ => none }
def sizesAssociateRow : OpenClaim := { program := "ytljompndopfflaa", sum := "c53a0002a1c2aa52845325ddd5487c71ed3d5e51a45f4fa85c7fb17a9bf0a581", func := "zoneinfo/zoneinfolaw03.SizesAssociate", spec := "sizesAssociate", inPlace := ["math/bits.Add64"], apart := false }
def SizesAssociateSaid : Prop := sizesAssociateRow.holds Try.pinned (OpenSpec.ofChange sizesAssociateSpec)

/-- ITS FALSE NEIGHBOUR: 'it returns false'. Refute it at one input. -/
def sizesAssociateWrong : ChangeSpec := { name := "sizesAssociate", fn := fun _ => fun
  | [d1, d2, d3] => { results := [.lit (.bool false)], args := [d1, d2, d3] }
  | _ => none }
def SizesAssociateWrongFalsely : Prop := sizesAssociateRow.holds Try.pinned (OpenSpec.ofChange sizesAssociateWrong)

/- THE SECOND FORM. 'bulk': how many values and letters a reading holds, each counted each time it is reached (what is shared counts as often as it is met; a slice's spare places count too). A statement '..UptoSaid' is the law's where the arguments, and the package variables that the reading takes, are together of bulk at most 1048576: NARROWER than '..Said'. Prove '..Said' where nothing that the law and all that it calls make is longer than what came in: it says more and counts as full. Else prove '..UptoSaid'. A law counts once. -/
mutual
def uptoBulk {H : Type} : DataW H → Nat
  | .lit (.string bytes) => bytes.length + 1
  | .lit _ => 1
  | .nil => 1
  | .ptr d => uptoBulk d + 1
  | .slice elems spare => uptoBulkAll elems + uptoBulkAll spare + 1
  | .agg parts => uptoBulkAll parts + 1
  | .iface _ d => uptoBulk d + 1
  | .map entries => uptoBulkEntries entries + 1
  | .held _ => 1
def uptoBulkAll {H : Type} : List (DataW H) → Nat
  | [] => 0
  | d :: r => uptoBulk d + uptoBulkAll r
def uptoBulkEntries {H : Type} : List (Lit × DataW H) → Nat
  | [] => 0
  | x :: r => uptoBulkEntry x + uptoBulkEntries r
def uptoBulkEntry {H : Type} : Lit × DataW H → Nat
  | (.string bytes, d) => bytes.length + uptoBulk d + 1
  | (_, d) => uptoBulk d + 1
 end
def uptoSmall : (H : Type) → List (DataW H) → Bool := fun _ ds => decide (uptoBulkAll ds ≤ 1048576)
def OpenSpec.upto (s : _root_.Go.ChangeSpec) : _root_.Go.OpenSpec := { _root_.Go.OpenSpec.ofChange s with cond := some uptoSmall }

/-- 'zoneinfolaw03.SizesMatchReference', WHERE WHAT IT READS IS OF BULK AT MOST 1048576: true; the input reads as it did. -/
def sizesMatchReferenceUptoRow : OpenClaim := { program := "ytljompndopfflaa", sum := "c53a0002a1c2aa52845325ddd5487c71ed3d5e51a45f4fa85c7fb17a9bf0a581", func := "zoneinfo/zoneinfolaw03.SizesMatchReference", spec := "sizesMatchReference", inPlace := ["math/bits.Add64"], apart := false, narrowed := true }
def SizesMatchReferenceUptoSaid : Prop := sizesMatchReferenceUptoRow.holds Try.pinned (OpenSpec.upto sizesMatchReferenceSpec)

/-- 'zoneinfolaw03.SizesExact', WHERE WHAT IT READS IS OF BULK AT MOST 1048576: true; the input reads as it did. -/
def sizesExactUptoRow : OpenClaim := { program := "ytljompndopfflaa", sum := "c53a0002a1c2aa52845325ddd5487c71ed3d5e51a45f4fa85c7fb17a9bf0a581", func := "zoneinfo/zoneinfolaw03.SizesExact", spec := "sizesExact", inPlace := ["math/bits.Add64"], apart := false, narrowed := true }
def SizesExactUptoSaid : Prop := sizesExactUptoRow.holds Try.pinned (OpenSpec.upto sizesExactSpec)

/-- 'zoneinfolaw03.SizesLimitIsMonotone', WHERE WHAT IT READS IS OF BULK AT MOST 1048576: true; the input reads as it did. -/
def sizesLimitIsMonotoneUptoRow : OpenClaim := { program := "ytljompndopfflaa", sum := "c53a0002a1c2aa52845325ddd5487c71ed3d5e51a45f4fa85c7fb17a9bf0a581", func := "zoneinfo/zoneinfolaw03.SizesLimitIsMonotone", spec := "sizesLimitIsMonotone", inPlace := ["math/bits.Add64"], apart := false, narrowed := true }
def SizesLimitIsMonotoneUptoSaid : Prop := sizesLimitIsMonotoneUptoRow.holds Try.pinned (OpenSpec.upto sizesLimitIsMonotoneSpec)

/-- 'zoneinfolaw03.SizesTotalSplits', WHERE WHAT IT READS IS OF BULK AT MOST 1048576: true; the input reads as it did. -/
def sizesTotalSplitsUptoRow : OpenClaim := { program := "ytljompndopfflaa", sum := "c53a0002a1c2aa52845325ddd5487c71ed3d5e51a45f4fa85c7fb17a9bf0a581", func := "zoneinfo/zoneinfolaw03.SizesTotalSplits", spec := "sizesTotalSplits", inPlace := ["math/bits.Add64"], apart := false, narrowed := true }
def SizesTotalSplitsUptoSaid : Prop := sizesTotalSplitsUptoRow.holds Try.pinned (OpenSpec.upto sizesTotalSplitsSpec)

/-- 'zoneinfolaw03.SizesAssociate', WHERE WHAT IT READS IS OF BULK AT MOST 1048576: true; the input reads as it did. -/
def sizesAssociateUptoRow : OpenClaim := { program := "ytljompndopfflaa", sum := "c53a0002a1c2aa52845325ddd5487c71ed3d5e51a45f4fa85c7fb17a9bf0a581", func := "zoneinfo/zoneinfolaw03.SizesAssociate", spec := "sizesAssociate", inPlace := ["math/bits.Add64"], apart := false, narrowed := true }
def SizesAssociateUptoSaid : Prop := sizesAssociateUptoRow.holds Try.pinned (OpenSpec.upto sizesAssociateSpec)

end Rows
end Go.Proofs.Ytljompndopfflaa
