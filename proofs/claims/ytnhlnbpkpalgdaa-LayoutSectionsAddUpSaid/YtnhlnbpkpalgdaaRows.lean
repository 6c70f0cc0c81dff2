/-
  No cell of these rows narrows 'for every input' (looked for: loops, veiled, ifaces, maps, wideKeys, modest, calm, conditions, laid).
  DERIVED. THE GIVEN ROWS OF THIS SEAT. 4 by the template 'for every input the law returns true; each argument reads behind the call as it read before'; 0 by the template 'total and deterministic' (their statements: YtnhlnbpkpalgdaaTotals.lean).
  GIVEN WITH THE SEED: the statements are not yours to turn. If you find one false, say at which input.
  Laid BY PROGRAM, IN A SANDBOX (cutbox-rows.mjs): the forced cells as the released guide's own fill.sh prints them over the translation d2feec6b8e84ab13… (all of the seat's roots in one cut). By AI agents, Wed Nov 11 2026. No macro, syntax, notation, axiom, sorry.
-/
import Derived.Test.YtnhlnbpkpalgdaaChecked
import GoSem.Claim
import GoSem.ClaimJoined
import GoSem.ClaimMapViews
import Derived.JoinedTies
import Derived.KernelRfl
namespace Go.Proofs.Ytnhlnbpkpalgdaa
/- THE CELL 'sum', in the pinned program and in every row, IS THE sha256 OF THE DUMP (.gsa) THAT YtnhlnbpkpalgdaaProg.lean LOADS. Nothing in Lean hashes anything: it is a label: what it is worth is what the hold of that sum in a sandbox is worth. -/
noncomputable def Try.pinned : Pinned := { name := "ytnhlnbpkpalgdaa", sum := "d2feec6b8e84ab13c1a7e9c29f8d796a5d3606fa690f4c32f795fbf4d04f43e6", checked := Try.checked }
namespace Rows
def none {H : Type} : Left H := { results := [], args := [] }

/-- 'zoneinfolaw14.LayoutMatchesReference': WHATEVER THE INPUT: true; the input reads as it did. -/
def layoutMatchesReferenceSpec : ChangeSpec := { name := "layoutMatchesReference", fn := fun _ => fun
  | [d1, d2, d3] => { results := [.lit (.bool true)], args := [d1, d2, d3] }
  | _ => none }
def layoutMatchesReferenceRow : OpenClaim := { program := "ytnhlnbpkpalgdaa", sum := "d2feec6b8e84ab13c1a7e9c29f8d796a5d3606fa690f4c32f795fbf4d04f43e6", func := "zoneinfo/zoneinfolaw14.LayoutMatchesReference", spec := "layoutMatchesReference", inPlace := ["math/bits.Add64"], apart := false }
def LayoutMatchesReferenceSaid : Prop := layoutMatchesReferenceRow.holds Try.pinned (OpenSpec.ofChange layoutMatchesReferenceSpec)

/-- ITS FALSE NEIGHBOUR: 'it returns false'. Refute it at one input. -/
def layoutMatchesReferenceWrong : ChangeSpec := { name := "layoutMatchesReference", fn := fun _ => fun
  | [d1, d2, d3] => { results := [.lit (.bool false)], args := [d1, d2, d3] }
  | _ => none }
def LayoutMatchesReferenceWrongFalsely : Prop := layoutMatchesReferenceRow.holds Try.pinned (OpenSpec.ofChange layoutMatchesReferenceWrong)

/-- 'zoneinfolaw14.LayoutSectionsAddUp': WHATEVER THE INPUT: true; the input reads as it did. -/
def layoutSectionsAddUpSpec : ChangeSpec := { name := "layoutSectionsAddUp", fn := fun _ => fun
  | [d1, d2] => { results := [.lit (.bool true)], args := [d1, d2] }
  | _ => none }
def layoutSectionsAddUpRow : OpenClaim := { program := "ytnhlnbpkpalgdaa", sum := "d2feec6b8e84ab13c1a7e9c29f8d796a5d3606fa690f4c32f795fbf4d04f43e6", func := "zoneinfo/zoneinfolaw14.LayoutSectionsAddUp", spec := "layoutSectionsAddUp", inPlace := ["math/bits.Add64"], apart := false }
def LayoutSectionsAddUpSaid : Prop := layoutSectionsAddUpRow.holds Try.pinned (OpenSpec.ofChange layoutSectionsAddUpSpec)

/-- ITS FALSE NEIGHBOUR: 'it returns false'. Refute it at one input. -/
def layoutSectionsAddUpWrong : ChangeSpec := { name := "layoutSectionsAddUp", fn := fun _ => fun
  | [d1, d2] => { results := [.lit (.bool false)], args := [d1, d2] }
  | _ => none }
def LayoutSectionsAddUpWrongFalsely : Prop := layoutSectionsAddUpRow.holds Try.pinned (OpenSpec.ofChange layoutSectionsAddUpWrong)

/-- 'zoneinfolaw14.LayoutCounts': WHATEVER THE INPUT: true; the input reads as it did. -/
def layoutCountsSpec : ChangeSpec := { name := "layoutCounts", fn := fun _ => fun
  | [d1, d2] => { results := [.lit (.bool true)], args := [d1, d2] }
  | _ => none }
def layoutCountsRow : OpenClaim := { program := "ytnhlnbpkpalgdaa", sum := "d2feec6b8e84ab13c1a7e9c29f8d796a5d3606fa690f4c32f795fbf4d04f43e6", func := "zoneinfo/zoneinfolaw14.LayoutCounts", spec := "layoutCounts", inPlace := ["math/bits.Add64"], apart := false }
def LayoutCountsSaid : Prop := layoutCountsRow.holds Try.pinned (OpenSpec.ofChange layoutCountsSpec)

/-- ITS FALSE NEIGHBOUR: 'it returns false'. Refute it at one input. -/
def layoutCountsWrong : ChangeSpec := { name := "layoutCounts", fn := fun _ => fun
  | [d1, d2] => { results := [.lit (.bool false)], args := [d1, d2] }
  | _ => none }
def LayoutCountsWrongFalsely : Prop := layoutCountsRow.holds Try.pinned (OpenSpec.ofChange layoutCountsWrong)

/-- 'zoneinfolaw14.LayoutIsMonotone': WHATEVER THE INPUT: true; the input reads as it did. -/
def layoutIsMonotoneSpec : ChangeSpec := { name := "layoutIsMonotone", fn := fun _ => fun
  | [d1, d2, d3, d4] => { results := [.lit (.bool true)], args := [d1, d2, d3, d4] }
  | _ => none }
def layoutIsMonotoneRow : OpenClaim := { program := "ytnhlnbpkpalgdaa", sum := "d2feec6b8e84ab13c1a7e9c29f8d796a5d3606fa690f4c32f795fbf4d04f43e6", func := "zoneinfo/zoneinfolaw14.LayoutIsMonotone", spec := "layoutIsMonotone", inPlace := ["math/bits.Add64"], apart := false }
def LayoutIsMonotoneSaid : Prop := layoutIsMonotoneRow.holds Try.pinned (OpenSpec.ofChange layoutIsMonotoneSpec)

/-- ITS FALSE NEIGHBOUR: 'it returns false'. Refute it at one input. -/
def layoutIsMonotoneWrong : ChangeSpec := { name := "layoutIsMonotone", fn := fun _ => fun
  | [d1, d2, d3, d4] => { results := [.lit (.bool false)], args := [d1, d2, d3, d4] }
  | _ => none }
def LayoutIsMonotoneWrongFalsely : Prop := layoutIsMonotoneRow.holds Try.pinned (OpenSpec.ofChange layoutIsMonotoneWrong)

/- THE SECOND FORM. 'bulk': how many values and letters a reading holds, each counted each time it is reached (what is shared counts as often as it is met; a slice's spare places count too). A statement '..UptoSaid' is the law's where the arguments, and the package variables that the reading takes, are together of bulk at most 1048576: NARROWER than '..Said'. Prove '..Said' where nothing that the law and all that it calls make is longer than what came in: it says more and counts as full. Else prove '..UptoSaid'. A law counts once. -/
mutual
def uptoBulk {H : Type} : DataW H → Nat
  | .lit (.string bytes) => bytes.length + 1
  | .lit _ => 1
  | .nil => 1
  | .ptr d => uptoBulk d + 1
  | .slice elems spare => uptoBulkAll elems + uptoBulkAll spare + 1
  | .agg parts => uptoBulkAll parts + 1
  | .iface _ d => uptoBulk d + 1
  | .map entries => uptoBulkEntries entries + 1
  | .held _ => 1
def uptoBulkAll {H : Type} : List (DataW H) → Nat
  | [] => 0
  | d :: r => uptoBulk d + uptoBulkAll r
def uptoBulkEntries {H : Type} : List (Lit × DataW H) → Nat
  | [] => 0
  | x :: r => uptoBulkEntry x + uptoBulkEntries r
def uptoBulkEntry {H : Type} : Lit × DataW H → Nat
  | (.string bytes, d) => bytes.length + uptoBulk d + 1
  | (_, d) => uptoBulk d + 1
 end
def uptoSmall : (H : Type) → List (DataW H) → Bool := fun _ ds => decide (uptoBulkAll ds ≤ 1048576)
def OpenSpec.upto (s : _root_.Go.ChangeSpec) : _root_.Go.OpenSpec := { _root_.Go.OpenSpec.ofChange s with cond := some uptoSmall }

/-- 'zoneinfolaw14.LayoutMatchesReference', WHERE WHAT IT READS IS OF BULK AT MOST 1048576: true; the input reads as it did. -/
def layoutMatchesReferenceUptoRow : OpenClaim := { program := "ytnhlnbpkpalgdaa", sum := "d2feec6b8e84ab13c1a7e9c29f8d796a5d3606fa690f4c32f795fbf4d04f43e6", func := "zoneinfo/zoneinfolaw14.LayoutMatchesReference", spec := "layoutMatchesReference", inPlace := ["math/bits.Add64"], apart := false, narrowed := true }
def LayoutMatchesReferenceUptoSaid : Prop := layoutMatchesReferenceUptoRow.holds Try.pinned (OpenSpec.upto layoutMatchesReferenceSpec)

/-- 'zoneinfolaw14.LayoutSectionsAddUp', WHERE WHAT IT READS IS OF BULK AT MOST 1048576: true; the input reads as it did. -/
def layoutSectionsAddUpUptoRow : OpenClaim := { program := "ytnhlnbpkpalgdaa", sum := "d2feec6b8e84ab13c1a7e9c29f8d796a5d3606fa690f4c32f795fbf4d04f43e6", func := "zoneinfo/zoneinfolaw14.LayoutSectionsAddUp", spec := "layoutSectionsAddUp", inPlace := ["math/bits.Add64"], apart := false, narrowed := true }
def LayoutSectionsAddUpUptoSaid : Prop := layoutSectionsAddUpUptoRow.holds Try.pinned (OpenSpec.upto layoutSectionsAddUpSpec)

/-- 'zoneinfolaw14.LayoutCounts', WHERE WHAT IT READS IS OF BULK AT MOST 1048576: true; the input reads as it did. -/
def layoutCountsUptoRow : OpenClaim := { program := "ytnhlnbpkpalgdaa", sum := "d2feec6b8e84ab13c1a7e9c29f8d796a5d3606fa690f4c32f795fbf4d04f43e6", func := "zoneinfo/zoneinfolaw14.LayoutCounts", spec := "layoutCounts", inPlace := ["math/bits.Add64"], apart := false, narrowed := true }
def LayoutCountsUptoSaid : Prop := layoutCountsUptoRow.holds Try.pinned (OpenSpec.upto layoutCountsSpec)

/-- 'zoneinfolaw14.LayoutIsMonotone', WHERE WHAT IT READS IS OF BULK AT MOST 1048576: true; the input reads as it did. -/
def layoutIsMonotoneUptoRow : OpenClaim := { program := "ytnhlnbpkpalgdaa", sum := "d2feec6b8e84ab13c1a7e9c29f8d796a5d3606fa690f4c32f795fbf4d04f43e6", func := "zoneinfo/zoneinfolaw14.LayoutIsMonotone", spec := "layoutIsMonotone", inPlace := ["math/bits.Add64"], apart := false, narrowed := true }
def LayoutIsMonotoneUptoSaid : Prop := layoutIsMonotoneUptoRow.holds Try.pinned (OpenSpec.upto layoutIsMonotoneSpec)

end Rows
end Go.Proofs.Ytnhlnbpkpalgdaa
