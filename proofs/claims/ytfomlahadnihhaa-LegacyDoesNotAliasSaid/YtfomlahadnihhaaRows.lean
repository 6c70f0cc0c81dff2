/-
  No cell of these rows narrows 'for every input' (looked for: loops, veiled, ifaces, maps, wideKeys, modest, calm, conditions, laid).
  DERIVED. THE GIVEN ROWS OF THIS SEAT. 5 by the template 'for every input the law returns true; each argument reads behind the call as it read before'; 0 by the template 'total and deterministic' (their statements: YtfomlahadnihhaaTotals.lean).
  GIVEN WITH THE SEED: the statements are not yours to turn. If you find one false, say at which input.
  Laid BY PROGRAM, IN A SANDBOX (cutbox-rows.mjs): the forced cells as the released guide's own fill.sh prints them over the translation 75398695c113d215… (all of the seat's roots in one cut). By AI agents, Wed Nov 11 2026. No macro, syntax, notation, axiom, sorry.
-/
import Derived.Test.YtfomlahadnihhaaChecked
import GoSem.Claim
import GoSem.ClaimJoined
import GoSem.ClaimMapViews
import Derived.JoinedTies
import Derived.KernelRfl
namespace Go.Proofs.Ytfomlahadnihhaa
/- THE CELL 'sum', in the pinned program and in every row, IS THE sha256 OF THE DUMP (.gsa) THAT YtfomlahadnihhaaProg.lean LOADS. Nothing in Lean hashes anything: it is a label: what it is worth is what the hold of that sum in a sandbox is worth. -/
noncomputable def Try.pinned : Pinned := { name := "ytfomlahadnihhaa", sum := "75398695c113d215582c01f5cad7d96e0a8d820e42de049a8d7c0227aec978a9", checked := Try.checked }
namespace Rows
def none {H : Type} : Left H := { results := [], args := [] }

/-- 'zoneinfolaw22.LegacyMatchesReference': WHATEVER THE INPUT: true; the input reads as it did. -/
def legacyMatchesReferenceSpec : ChangeSpec := { name := "legacyMatchesReference", fn := fun _ => fun
  | [d1, d2] => { results := [.lit (.bool true)], args := [d1, d2] }
  | _ => none }
def legacyMatchesReferenceRow : OpenClaim := { program := "ytfomlahadnihhaa", sum := "75398695c113d215582c01f5cad7d96e0a8d820e42de049a8d7c0227aec978a9", func := "zoneinfo/zoneinfolaw22.LegacyMatchesReference", spec := "legacyMatchesReference", unfollowed := true, recurses := true, apart := false }
def LegacyMatchesReferenceSaid : Prop := legacyMatchesReferenceRow.holds Try.pinned (OpenSpec.ofChange legacyMatchesReferenceSpec)

/-- ITS FALSE NEIGHBOUR: 'it returns false'. Refute it at one input. -/
def legacyMatchesReferenceWrong : ChangeSpec := { name := "legacyMatchesReference", fn := fun _ => fun
  | [d1, d2] => { results := [.lit (.bool false)], args := [d1, d2] }
  | _ => none }
def LegacyMatchesReferenceWrongFalsely : Prop := legacyMatchesReferenceRow.holds Try.pinned (OpenSpec.ofChange legacyMatchesReferenceWrong)

/-- 'zoneinfolaw22.LegacyViewAgrees': WHATEVER THE INPUT: true; the input reads as it did. -/
def legacyViewAgreesSpec : ChangeSpec := { name := "legacyViewAgrees", fn := fun _ => fun
  | [d1, d2, d3] => { results := [.lit (.bool true)], args := [d1, d2, d3] }
  | _ => none }
def legacyViewAgreesRow : OpenClaim := { program := "ytfomlahadnihhaa", sum := "75398695c113d215582c01f5cad7d96e0a8d820e42de049a8d7c0227aec978a9", func := "zoneinfo/zoneinfolaw22.LegacyViewAgrees", spec := "legacyViewAgrees", unfollowed := true, recurses := true, apart := false }
def LegacyViewAgreesSaid : Prop := legacyViewAgreesRow.holds Try.pinned (OpenSpec.ofChange legacyViewAgreesSpec)

/-- ITS FALSE NEIGHBOUR: 'it returns false'. Refute it at one input. -/
def legacyViewAgreesWrong : ChangeSpec := { name := "legacyViewAgrees", fn := fun _ => fun
  | [d1, d2, d3] => { results := [.lit (.bool false)], args := [d1, d2, d3] }
  | _ => none }
def LegacyViewAgreesWrongFalsely : Prop := legacyViewAgreesRow.holds Try.pinned (OpenSpec.ofChange legacyViewAgreesWrong)

/-- 'zoneinfolaw22.LegacyViewIsIdempotent': WHATEVER THE INPUT: true; the input reads as it did. -/
def legacyViewIsIdempotentSpec : ChangeSpec := { name := "legacyViewIsIdempotent", fn := fun _ => fun
  | [d] => { results := [.lit (.bool true)], args := [d] }
  | _ => none }
def legacyViewIsIdempotentRow : OpenClaim := { program := "ytfomlahadnihhaa", sum := "75398695c113d215582c01f5cad7d96e0a8d820e42de049a8d7c0227aec978a9", func := "zoneinfo/zoneinfolaw22.LegacyViewIsIdempotent", spec := "legacyViewIsIdempotent", unfollowed := true, recurses := true, apart := false }
def LegacyViewIsIdempotentSaid : Prop := legacyViewIsIdempotentRow.holds Try.pinned (OpenSpec.ofChange legacyViewIsIdempotentSpec)

/-- ITS FALSE NEIGHBOUR: 'it returns false'. Refute it at one input. -/
def legacyViewIsIdempotentWrong : ChangeSpec := { name := "legacyViewIsIdempotent", fn := fun _ => fun
  | [d] => { results := [.lit (.bool false)], args := [d] }
  | _ => none }
def LegacyViewIsIdempotentWrongFalsely : Prop := legacyViewIsIdempotentRow.holds Try.pinned (OpenSpec.ofChange legacyViewIsIdempotentWrong)

/-- 'zoneinfolaw22.LegacyInEffect': WHATEVER THE INPUT: true; the input reads as it did. -/
def legacyInEffectSpec : ChangeSpec := { name := "legacyInEffect", fn := fun _ => fun
  | [d1, d2] => { results := [.lit (.bool true)], args := [d1, d2] }
  | _ => none }
def legacyInEffectRow : OpenClaim := { program := "ytfomlahadnihhaa", sum := "75398695c113d215582c01f5cad7d96e0a8d820e42de049a8d7c0227aec978a9", func := "zoneinfo/zoneinfolaw22.LegacyInEffect", spec := "legacyInEffect", unfollowed := true, recurses := true, apart := false }
def LegacyInEffectSaid : Prop := legacyInEffectRow.holds Try.pinned (OpenSpec.ofChange legacyInEffectSpec)

/-- ITS FALSE NEIGHBOUR: 'it returns false'. Refute it at one input. -/
def legacyInEffectWrong : ChangeSpec := { name := "legacyInEffect", fn := fun _ => fun
  | [d1, d2] => { results := [.lit (.bool false)], args := [d1, d2] }
  | _ => none }
def LegacyInEffectWrongFalsely : Prop := legacyInEffectRow.holds Try.pinned (OpenSpec.ofChange legacyInEffectWrong)

/-- 'zoneinfolaw22.LegacyDoesNotAlias': WHATEVER THE INPUT: true; the input reads as it did. -/
def legacyDoesNotAliasSpec : ChangeSpec := { name := "legacyDoesNotAlias", fn := fun _ => fun
  | [d] => { results := [.lit (.bool true)], args := [d] }
  | _ => none }
def legacyDoesNotAliasRow : OpenClaim := { program := "ytfomlahadnihhaa", sum := "75398695c113d215582c01f5cad7d96e0a8d820e42de049a8d7c0227aec978a9", func := "zoneinfo/zoneinfolaw22.LegacyDoesNotAlias", spec := "legacyDoesNotAlias", unfollowed := true, recurses := true, apart := false }
def LegacyDoesNotAliasSaid : Prop := legacyDoesNotAliasRow.holds Try.pinned (OpenSpec.ofChange legacyDoesNotAliasSpec)

/-- ITS FALSE NEIGHBOUR: 'it returns false'. Refute it at one input. -/
def legacyDoesNotAliasWrong : ChangeSpec := { name := "legacyDoesNotAlias", fn := fun _ => fun
  | [d] => { results := [.lit (.bool false)], args := [d] }
  | _ => none }
def LegacyDoesNotAliasWrongFalsely : Prop := legacyDoesNotAliasRow.holds Try.pinned (OpenSpec.ofChange legacyDoesNotAliasWrong)

/- THE SECOND FORM. 'bulk': how many values and letters a reading holds, each counted each time it is reached (what is shared counts as often as it is met; a slice's spare places count too). A statement '..UptoSaid' is the law's where the arguments, and the package variables that the reading takes, are together of bulk at most 1048576: NARROWER than '..Said'. Prove '..Said' where nothing that the law and all that it calls make is longer than what came in: it says more and counts as full. Else prove '..UptoSaid'. A law counts once. -/
mutual
def uptoBulk {H : Type} : DataW H → Nat
  | .lit (.string bytes) => bytes.length + 1
  | .lit _ => 1
  | .nil => 1
  | .ptr d => uptoBulk d + 1
  | .slice elems spare => uptoBulkAll elems + uptoBulkAll spare + 1
  | .agg parts => uptoBulkAll parts + 1
  | .iface _ d => uptoBulk d + 1
  | .map entries => uptoBulkEntries entries + 1
  | .held _ => 1
def uptoBulkAll {H : Type} : List (DataW H) → Nat
  | [] => 0
  | d :: r => uptoBulk d + uptoBulkAll r
def uptoBulkEntries {H : Type} : List (Lit × DataW H) → Nat
  | [] => 0
  | x :: r => uptoBulkEntry x + uptoBulkEntries r
def uptoBulkEntry {H : Type} : Lit × DataW H → Nat
  | (.string bytes, d) => bytes.length + uptoBulk d + 1
  | (_, d) => uptoBulk d + 1
 end
def uptoSmall : (H : Type) → List (DataW H) → Bool := fun _ ds => decide (uptoBulkAll ds ≤ 1048576)
def OpenSpec.upto (s : _root_.Go.ChangeSpec) : _root_.Go.OpenSpec := { _root_.Go.OpenSpec.ofChange s with cond := some uptoSmall }

/-- 'zoneinfolaw22.LegacyMatchesReference', WHERE WHAT IT READS IS OF BULK AT MOST 1048576: true; the input reads as it did. -/
def legacyMatchesReferenceUptoRow : OpenClaim := { program := "ytfomlahadnihhaa", sum := "75398695c113d215582c01f5cad7d96e0a8d820e42de049a8d7c0227aec978a9", func := "zoneinfo/zoneinfolaw22.LegacyMatchesReference", spec := "legacyMatchesReference", unfollowed := true, recurses := true, apart := false, narrowed := true }
def LegacyMatchesReferenceUptoSaid : Prop := legacyMatchesReferenceUptoRow.holds Try.pinned (OpenSpec.upto legacyMatchesReferenceSpec)

/-- 'zoneinfolaw22.LegacyViewAgrees', WHERE WHAT IT READS IS OF BULK AT MOST 1048576: true; the input reads as it did. -/
def legacyViewAgreesUptoRow : OpenClaim := { program := "ytfomlahadnihhaa", sum := "75398695c113d215582c01f5cad7d96e0a8d820e42de049a8d7c0227aec978a9", func := "zoneinfo/zoneinfolaw22.LegacyViewAgrees", spec := "legacyViewAgrees", unfollowed := true, recurses := true, apart := false, narrowed := true }
def LegacyViewAgreesUptoSaid : Prop := legacyViewAgreesUptoRow.holds Try.pinned (OpenSpec.upto legacyViewAgreesSpec)

/-- 'zoneinfolaw22.LegacyViewIsIdempotent', WHERE WHAT IT READS IS OF BULK AT MOST 1048576: true; the input reads as it did. -/
def legacyViewIsIdempotentUptoRow : OpenClaim := { program := "ytfomlahadnihhaa", sum := "75398695c113d215582c01f5cad7d96e0a8d820e42de049a8d7c0227aec978a9", func := "zoneinfo/zoneinfolaw22.LegacyViewIsIdempotent", spec := "legacyViewIsIdempotent", unfollowed := true, recurses := true, apart := false, narrowed := true }
def LegacyViewIsIdempotentUptoSaid : Prop := legacyViewIsIdempotentUptoRow.holds Try.pinned (OpenSpec.upto legacyViewIsIdempotentSpec)

/-- 'zoneinfolaw22.LegacyInEffect', WHERE WHAT IT READS IS OF BULK AT MOST 1048576: true; the input reads as it did. -/
def legacyInEffectUptoRow : OpenClaim := { program := "ytfomlahadnihhaa", sum := "75398695c113d215582c01f5cad7d96e0a8d820e42de049a8d7c0227aec978a9", func := "zoneinfo/zoneinfolaw22.LegacyInEffect", spec := "legacyInEffect", unfollowed := true, recurses := true, apart := false, narrowed := true }
def LegacyInEffectUptoSaid : Prop := legacyInEffectUptoRow.holds Try.pinned (OpenSpec.upto legacyInEffectSpec)

/-- 'zoneinfolaw22.LegacyDoesNotAlias', WHERE WHAT IT READS IS OF BULK AT MOST 1048576: true; the input reads as it did. -/
def legacyDoesNotAliasUptoRow : OpenClaim := { program := "ytfomlahadnihhaa", sum := "75398695c113d215582c01f5cad7d96e0a8d820e42de049a8d7c0227aec978a9", func := "zoneinfo/zoneinfolaw22.LegacyDoesNotAlias", spec := "legacyDoesNotAlias", unfollowed := true, recurses := true, apart := false, narrowed := true }
def LegacyDoesNotAliasUptoSaid : Prop := legacyDoesNotAliasUptoRow.holds Try.pinned (OpenSpec.upto legacyDoesNotAliasSpec)

end Rows
end Go.Proofs.Ytfomlahadnihhaa
