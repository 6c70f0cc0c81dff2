/-
  No cell of these rows narrows 'for every input' (looked for: loops, veiled, ifaces, maps, wideKeys, modest, calm, conditions, laid).
  DERIVED. THE GIVEN ROWS OF THIS SEAT. 5 by the template 'for every input the law returns true; each argument reads behind the call as it read before'; 0 by the template 'total and deterministic' (their statements: YtfminjencigfeaaTotals.lean).
  GIVEN WITH THE SEED: the statements are not yours to turn. If you find one false, say at which input.
  Laid BY PROGRAM, IN A SANDBOX (cutbox-rows.mjs): the forced cells as the released guide's own fill.sh prints them over the translation 273cc62a1423cd8c… (all of the seat's roots in one cut). By AI agents, Wed Nov 11 2026. No macro, syntax, notation, axiom, sorry.
-/
import Derived.Test.YtfminjencigfeaaChecked
import GoSem.Claim
import GoSem.ClaimJoined
import GoSem.ClaimMapViews
import Derived.JoinedTies
import Derived.KernelRfl
namespace Go.Proofs.Ytfminjencigfeaa
/- THE CELL 'sum', in the pinned program and in every row, IS THE sha256 OF THE DUMP (.gsa) THAT YtfminjencigfeaaProg.lean LOADS. Nothing in Lean hashes anything: it is a label: what it is worth is what the hold of that sum in a sandbox is worth. -/
noncomputable def Try.pinned : Pinned := { name := "ytfminjencigfeaa", sum := "273cc62a1423cd8cd1d394d3148583637700720453bf81dec895ee1098065282", checked := Try.checked }
namespace Rows
def none {H : Type} : Left H := { results := [], args := [] }

/-- 'zoneinfolaw23.LookupMatchesReference': WHATEVER THE INPUT: true; the input reads as it did. -/
def lookupMatchesReferenceSpec : ChangeSpec := { name := "lookupMatchesReference", fn := fun _ => fun
  | [d1, d2, d3, d4, d5] => { results := [.lit (.bool true)], args := [d1, d2, d3, d4, d5] }
  | _ => none }
def lookupMatchesReferenceRow : OpenClaim := { program := "ytfminjencigfeaa", sum := "273cc62a1423cd8cd1d394d3148583637700720453bf81dec895ee1098065282", func := "zoneinfo/zoneinfolaw23.LookupMatchesReference", spec := "lookupMatchesReference", inPlace := ["internal/bytealg.IndexByte", "internal/bytealg.Index"], named := ["internal/bytealg.MaxLen"], apart := false }
def LookupMatchesReferenceSaid : Prop := lookupMatchesReferenceRow.holds Try.pinned (OpenSpec.ofChange lookupMatchesReferenceSpec)

/-- ITS FALSE NEIGHBOUR: 'it returns false'. Refute it at one input. -/
def lookupMatchesReferenceWrong : ChangeSpec := { name := "lookupMatchesReference", fn := fun _ => fun
  | [d1, d2, d3, d4, d5] => { results := [.lit (.bool false)], args := [d1, d2, d3, d4, d5] }
  | _ => none }
def LookupMatchesReferenceWrongFalsely : Prop := lookupMatchesReferenceRow.holds Try.pinned (OpenSpec.ofChange lookupMatchesReferenceWrong)

/-- 'zoneinfolaw23.LookupMatchesLinearSearch': WHATEVER THE INPUT: true; the input reads as it did. -/
def lookupMatchesLinearSearchSpec : ChangeSpec := { name := "lookupMatchesLinearSearch", fn := fun _ => fun
  | [d1, d2, d3] => { results := [.lit (.bool true)], args := [d1, d2, d3] }
  | _ => none }
def lookupMatchesLinearSearchRow : OpenClaim := { program := "ytfminjencigfeaa", sum := "273cc62a1423cd8cd1d394d3148583637700720453bf81dec895ee1098065282", func := "zoneinfo/zoneinfolaw23.LookupMatchesLinearSearch", spec := "lookupMatchesLinearSearch", inPlace := ["internal/bytealg.IndexByte", "internal/bytealg.Index"], named := ["internal/bytealg.MaxLen"], apart := false }
def LookupMatchesLinearSearchSaid : Prop := lookupMatchesLinearSearchRow.holds Try.pinned (OpenSpec.ofChange lookupMatchesLinearSearchSpec)

/-- ITS FALSE NEIGHBOUR: 'it returns false'. Refute it at one input. -/
def lookupMatchesLinearSearchWrong : ChangeSpec := { name := "lookupMatchesLinearSearch", fn := fun _ => fun
  | [d1, d2, d3] => { results := [.lit (.bool false)], args := [d1, d2, d3] }
  | _ => none }
def LookupMatchesLinearSearchWrongFalsely : Prop := lookupMatchesLinearSearchRow.holds Try.pinned (OpenSpec.ofChange lookupMatchesLinearSearchWrong)

/-- 'zoneinfolaw23.LookupState': WHATEVER THE INPUT: true; the input reads as it did. -/
def lookupStateSpec : ChangeSpec := { name := "lookupState", fn := fun _ => fun
  | [d1, d2] => { results := [.lit (.bool true)], args := [d1, d2] }
  | _ => none }
def lookupStateRow : OpenClaim := { program := "ytfminjencigfeaa", sum := "273cc62a1423cd8cd1d394d3148583637700720453bf81dec895ee1098065282", func := "zoneinfo/zoneinfolaw23.LookupState", spec := "lookupState", inPlace := ["internal/bytealg.IndexByte", "internal/bytealg.Index"], named := ["internal/bytealg.MaxLen"], apart := false }
def LookupStateSaid : Prop := lookupStateRow.holds Try.pinned (OpenSpec.ofChange lookupStateSpec)

/-- ITS FALSE NEIGHBOUR: 'it returns false'. Refute it at one input. -/
def lookupStateWrong : ChangeSpec := { name := "lookupState", fn := fun _ => fun
  | [d1, d2] => { results := [.lit (.bool false)], args := [d1, d2] }
  | _ => none }
def LookupStateWrongFalsely : Prop := lookupStateRow.holds Try.pinned (OpenSpec.ofChange lookupStateWrong)

/-- 'zoneinfolaw23.LookupSame': WHATEVER THE INPUT: true; the input reads as it did. -/
def lookupSameSpec : ChangeSpec := { name := "lookupSame", fn := fun _ => fun
  | [d1, d2, d3, d4] => { results := [.lit (.bool true)], args := [d1, d2, d3, d4] }
  | _ => none }
def lookupSameRow : OpenClaim := { program := "ytfminjencigfeaa", sum := "273cc62a1423cd8cd1d394d3148583637700720453bf81dec895ee1098065282", func := "zoneinfo/zoneinfolaw23.LookupSame", spec := "lookupSame", inPlace := ["internal/bytealg.IndexByte", "internal/bytealg.Index"], named := ["internal/bytealg.MaxLen"], apart := false }
def LookupSameSaid : Prop := lookupSameRow.holds Try.pinned (OpenSpec.ofChange lookupSameSpec)

/-- ITS FALSE NEIGHBOUR: 'it returns false'. Refute it at one input. -/
def lookupSameWrong : ChangeSpec := { name := "lookupSame", fn := fun _ => fun
  | [d1, d2, d3, d4] => { results := [.lit (.bool false)], args := [d1, d2, d3, d4] }
  | _ => none }
def LookupSameWrongFalsely : Prop := lookupSameRow.holds Try.pinned (OpenSpec.ofChange lookupSameWrong)

/-- 'zoneinfolaw23.LookupRankOfTransitions': WHATEVER THE INPUT: true; the input reads as it did. -/
def lookupRankOfTransitionsSpec : ChangeSpec := { name := "lookupRankOfTransitions", fn := fun _ => fun
  | [d1, d2] => { results := [.lit (.bool true)], args := [d1, d2] }
  | _ => none }
def lookupRankOfTransitionsRow : OpenClaim := { program := "ytfminjencigfeaa", sum := "273cc62a1423cd8cd1d394d3148583637700720453bf81dec895ee1098065282", func := "zoneinfo/zoneinfolaw23.LookupRankOfTransitions", spec := "lookupRankOfTransitions", inPlace := ["internal/bytealg.IndexByte", "internal/bytealg.Index"], named := ["internal/bytealg.MaxLen"], apart := false }
def LookupRankOfTransitionsSaid : Prop := lookupRankOfTransitionsRow.holds Try.pinned (OpenSpec.ofChange lookupRankOfTransitionsSpec)

/-- ITS FALSE NEIGHBOUR: 'it returns false'. Refute it at one input. -/
def lookupRankOfTransitionsWrong : ChangeSpec := { name := "lookupRankOfTransitions", fn := fun _ => fun
  | [d1, d2] => { results := [.lit (.bool false)], args := [d1, d2] }
  | _ => none }
def LookupRankOfTransitionsWrongFalsely : Prop := lookupRankOfTransitionsRow.holds Try.pinned (OpenSpec.ofChange lookupRankOfTransitionsWrong)

/- THE SECOND FORM. 'bulk': how many values and letters a reading holds, each counted each time it is reached (what is shared counts as often as it is met; a slice's spare places count too). A statement '..UptoSaid' is the law's where the arguments, and the package variables that the reading takes, are together of bulk at most 1048576: NARROWER than '..Said'. Prove '..Said' where nothing that the law and all that it calls make is longer than what came in: it says more and counts as full. Else prove '..UptoSaid'. A law counts once. -/
mutual
def uptoBulk {H : Type} : DataW H → Nat
  | .lit (.string bytes) => bytes.length + 1
  | .lit _ => 1
  | .nil => 1
  | .ptr d => uptoBulk d + 1
  | .slice elems spare => uptoBulkAll elems + uptoBulkAll spare + 1
  | .agg parts => uptoBulkAll parts + 1
  | .iface _ d => uptoBulk d + 1
  | .map entries => uptoBulkEntries entries + 1
  | .held _ => 1
def uptoBulkAll {H : Type} : List (DataW H) → Nat
  | [] => 0
  | d :: r => uptoBulk d + uptoBulkAll r
def uptoBulkEntries {H : Type} : List (Lit × DataW H) → Nat
  | [] => 0
  | x :: r => uptoBulkEntry x + uptoBulkEntries r
def uptoBulkEntry {H : Type} : Lit × DataW H → Nat
  | (.string bytes, d) => bytes.length + uptoBulk d + 1
  | (_, d) => uptoBulk d + 1
 end
def uptoSmall : (H : Type) → List (DataW H) → Bool := fun _ ds => decide (uptoBulkAll ds ≤ 1048576)
def OpenSpec.upto (s : _root_.Go.ChangeSpec) : _root_.Go.OpenSpec := { _root_.Go.OpenSpec.ofChange s with cond := some uptoSmall }

/-- 'zoneinfolaw23.LookupMatchesReference', WHERE WHAT IT READS IS OF BULK AT MOST 1048576: true; the input reads as it did. -/
def lookupMatchesReferenceUptoRow : OpenClaim := { program := "ytfminjencigfeaa", sum := "273cc62a1423cd8cd1d394d3148583637700720453bf81dec895ee1098065282", func := "zoneinfo/zoneinfolaw23.LookupMatchesReference", spec := "lookupMatchesReference", inPlace := ["internal/bytealg.IndexByte", "internal/bytealg.Index"], named := ["internal/bytealg.MaxLen"], apart := false, narrowed := true }
def LookupMatchesReferenceUptoSaid : Prop := lookupMatchesReferenceUptoRow.holds Try.pinned (OpenSpec.upto lookupMatchesReferenceSpec)

/-- 'zoneinfolaw23.LookupMatchesLinearSearch', WHERE WHAT IT READS IS OF BULK AT MOST 1048576: true; the input reads as it did. -/
def lookupMatchesLinearSearchUptoRow : OpenClaim := { program := "ytfminjencigfeaa", sum := "273cc62a1423cd8cd1d394d3148583637700720453bf81dec895ee1098065282", func := "zoneinfo/zoneinfolaw23.LookupMatchesLinearSearch", spec := "lookupMatchesLinearSearch", inPlace := ["internal/bytealg.IndexByte", "internal/bytealg.Index"], named := ["internal/bytealg.MaxLen"], apart := false, narrowed := true }
def LookupMatchesLinearSearchUptoSaid : Prop := lookupMatchesLinearSearchUptoRow.holds Try.pinned (OpenSpec.upto lookupMatchesLinearSearchSpec)

/-- 'zoneinfolaw23.LookupState', WHERE WHAT IT READS IS OF BULK AT MOST 1048576: true; the input reads as it did. -/
def lookupStateUptoRow : OpenClaim := { program := "ytfminjencigfeaa", sum := "273cc62a1423cd8cd1d394d3148583637700720453bf81dec895ee1098065282", func := "zoneinfo/zoneinfolaw23.LookupState", spec := "lookupState", inPlace := ["internal/bytealg.IndexByte", "internal/bytealg.Index"], named := ["internal/bytealg.MaxLen"], apart := false, narrowed := true }
def LookupStateUptoSaid : Prop := lookupStateUptoRow.holds Try.pinned (OpenSpec.upto lookupStateSpec)

/-- 'zoneinfolaw23.LookupSame', WHERE WHAT IT READS IS OF BULK AT MOST 1048576: true; the input reads as it did. -/
def lookupSameUptoRow : OpenClaim := { program := "ytfminjencigfeaa", sum := "273cc62a1423cd8cd1d394d3148583637700720453bf81dec895ee1098065282", func := "zoneinfo/zoneinfolaw23.LookupSame", spec := "lookupSame", inPlace := ["internal/bytealg.IndexByte", "internal/bytealg.Index"], named := ["internal/bytealg.MaxLen"], apart := false, narrowed := true }
def LookupSameUptoSaid : Prop := lookupSameUptoRow.holds Try.pinned (OpenSpec.upto lookupSameSpec)

/-- 'zoneinfolaw23.LookupRankOfTransitions', WHERE WHAT IT READS IS OF BULK AT MOST 1048576: true; the input reads as it did. -/
def lookupRankOfTransitionsUptoRow : OpenClaim := { program := "ytfminjencigfeaa", sum := "273cc62a1423cd8cd1d394d3148583637700720453bf81dec895ee1098065282", func := "zoneinfo/zoneinfolaw23.LookupRankOfTransitions", spec := "lookupRankOfTransitions", inPlace := ["internal/bytealg.IndexByte", "internal/bytealg.Index"], named := ["internal/bytealg.MaxLen"], apart := false, narrowed := true }
def LookupRankOfTransitionsUptoSaid : Prop := lookupRankOfTransitionsUptoRow.holds Try.pinned (OpenSpec.upto lookupRankOfTransitionsSpec)

end Rows
end Go.Proofs.Ytfminjencigfeaa
