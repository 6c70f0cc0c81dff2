/-
  No cell of these rows narrows 'for every input' (looked for: loops, veiled, ifaces, maps, wideKeys, modest, calm, conditions, laid).
  DERIVED. THE GIVEN ROWS OF THIS SEAT. 5 by the template 'for every input the law returns true; each argument reads behind the call as it read before'; 0 by the template 'total and deterministic' (their statements: YtchlggnbgabddaaTotals.lean).
  GIVEN WITH THE SEED: the statements are not yours to turn. If you find one false, say at which input.
  Laid BY PROGRAM, IN A SANDBOX (cutbox-rows.mjs): the forced cells as the released guide's own fill.sh prints them over the translation 51a9ce2c48267169… (all of the seat's roots in one cut). By AI agents, Wed Nov 11 2026. No macro, syntax, notation, axiom, sorry.
-/
import Derived.Test.YtchlggnbgabddaaChecked
import GoSem.Claim
import GoSem.ClaimJoined
import GoSem.ClaimMapViews
import Derived.JoinedTies
import Derived.KernelRfl
namespace Go.Proofs.Ytchlggnbgabddaa
/- THE CELL 'sum', in the pinned program and in every row, IS THE sha256 OF THE DUMP (.gsa) THAT YtchlggnbgabddaaProg.lean LOADS. Nothing in Lean hashes anything: it is a label: what it is worth is what the hold of that sum in a sandbox is worth. -/
noncomputable def Try.pinned : Pinned := { name := "ytchlggnbgabddaa", sum := "51a9ce2c48267169a1fe8cc3168f00c62f0b33e3a294f3a62d4b845552e8cbc8", checked := Try.checked }
namespace Rows
def none {H : Type} : Left H := { results := [], args := [] }

/-- 'zoneinfolaw12.DesigsMatchReference': WHATEVER THE INPUT: true; the input reads as it did. -/
def desigsMatchReferenceSpec : ChangeSpec := { name := "desigsMatchReference", fn := fun _ => fun
  | [d1, d2, d3] => { results := [.lit (.bool true)], args := [d1, d2, d3] }
  | _ => none }
def desigsMatchReferenceRow : OpenClaim := { program := "ytchlggnbgabddaa", sum := "51a9ce2c48267169a1fe8cc3168f00c62f0b33e3a294f3a62d4b845552e8cbc8", func := "zoneinfo/zoneinfolaw12.DesigsMatchReference", spec := "desigsMatchReference", inPlace := ["internal/bytealg.IndexByte", "internal/bytealg.Index"], unfollowed := true, recurses := true, named := ["internal/bytealg.MaxLen"], apart := false }
def DesigsMatchReferenceSaid : Prop := desigsMatchReferenceRow.holds Try.pinned (OpenSpec.ofChange desigsMatchReferenceSpec)

/-- ITS FALSE NEIGHBOUR: 'it returns false'. Refute it at one input. -/
def desigsMatchReferenceWrong : ChangeSpec := { name := "desigsMatchReference", fn := fun _ => fun
  | [d1, d2, d3] => { results := [.lit (.bool false)], args := [d1, d2, d3] }
  | _ => none }
def DesigsMatchReferenceWrongFalsely : Prop := desigsMatchReferenceRow.holds Try.pinned (OpenSpec.ofChange desigsMatchReferenceWrong)

/-- 'zoneinfolaw12.DesigsBuildThenName': WHATEVER THE INPUT: true; the input reads as it did. -/
def desigsBuildThenNameSpec : ChangeSpec := { name := "desigsBuildThenName", fn := fun _ => fun
  | [d] => { results := [.lit (.bool true)], args := [d] }
  | _ => none }
def desigsBuildThenNameRow : OpenClaim := { program := "ytchlggnbgabddaa", sum := "51a9ce2c48267169a1fe8cc3168f00c62f0b33e3a294f3a62d4b845552e8cbc8", func := "zoneinfo/zoneinfolaw12.DesigsBuildThenName", spec := "desigsBuildThenName", inPlace := ["internal/bytealg.IndexByte", "internal/bytealg.Index"], unfollowed := true, recurses := true, named := ["internal/bytealg.MaxLen"], apart := false }
def DesigsBuildThenNameSaid : Prop := desigsBuildThenNameRow.holds Try.pinned (OpenSpec.ofChange desigsBuildThenNameSpec)

/-- ITS FALSE NEIGHBOUR: 'it returns false'. Refute it at one input. -/
def desigsBuildThenNameWrong : ChangeSpec := { name := "desigsBuildThenName", fn := fun _ => fun
  | [d] => { results := [.lit (.bool false)], args := [d] }
  | _ => none }
def DesigsBuildThenNameWrongFalsely : Prop := desigsBuildThenNameRow.holds Try.pinned (OpenSpec.ofChange desigsBuildThenNameWrong)

/-- 'zoneinfolaw12.DesigsNamesAreSuffixes': WHATEVER THE INPUT: true; the input reads as it did. -/
def desigsNamesAreSuffixesSpec : ChangeSpec := { name := "desigsNamesAreSuffixes", fn := fun _ => fun
  | [d1, d2] => { results := [.lit (.bool true)], args := [d1, d2] }
  | _ => none }
def desigsNamesAreSuffixesRow : OpenClaim := { program := "ytchlggnbgabddaa", sum := "51a9ce2c48267169a1fe8cc3168f00c62f0b33e3a294f3a62d4b845552e8cbc8", func := "zoneinfo/zoneinfolaw12.DesigsNamesAreSuffixes", spec := "desigsNamesAreSuffixes", inPlace := ["internal/bytealg.IndexByte", "internal/bytealg.Index"], unfollowed := true, recurses := true, named := ["internal/bytealg.MaxLen"], apart := false }
def DesigsNamesAreSuffixesSaid : Prop := desigsNamesAreSuffixesRow.holds Try.pinned (OpenSpec.ofChange desigsNamesAreSuffixesSpec)

/-- ITS FALSE NEIGHBOUR: 'it returns false'. Refute it at one input. -/
def desigsNamesAreSuffixesWrong : ChangeSpec := { name := "desigsNamesAreSuffixes", fn := fun _ => fun
  | [d1, d2] => { results := [.lit (.bool false)], args := [d1, d2] }
  | _ => none }
def DesigsNamesAreSuffixesWrongFalsely : Prop := desigsNamesAreSuffixesRow.holds Try.pinned (OpenSpec.ofChange desigsNamesAreSuffixesWrong)

/-- 'zoneinfolaw12.DesigsValidity': WHATEVER THE INPUT: true; the input reads as it did. -/
def desigsValiditySpec : ChangeSpec := { name := "desigsValidity", fn := fun _ => fun
  | [d1, d2, d3, d4] => { results := [.lit (.bool true)], args := [d1, d2, d3, d4] }
  | _ => none }
def desigsValidityRow : OpenClaim := { program := "ytchlggnbgabddaa", sum := "51a9ce2c48267169a1fe8cc3168f00c62f0b33e3a294f3a62d4b845552e8cbc8", func := "zoneinfo/zoneinfolaw12.DesigsValidity", spec := "desigsValidity", inPlace := ["internal/bytealg.IndexByte", "internal/bytealg.Index"], unfollowed := true, recurses := true, named := ["internal/bytealg.MaxLen"], apart := false }
def DesigsValiditySaid : Prop := desigsValidityRow.holds Try.pinned (OpenSpec.ofChange desigsValiditySpec)

/-- ITS FALSE NEIGHBOUR: 'it returns false'. Refute it at one input. -/
def desigsValidityWrong : ChangeSpec := { name := "desigsValidity", fn := fun _ => fun
  | [d1, d2, d3, d4] => { results := [.lit (.bool false)], args := [d1, d2, d3, d4] }
  | _ => none }
def DesigsValidityWrongFalsely : Prop := desigsValidityRow.holds Try.pinned (OpenSpec.ofChange desigsValidityWrong)

/-- 'zoneinfolaw12.DesigsBuildIsStable': WHATEVER THE INPUT: true; the input reads as it did. -/
def desigsBuildIsStableSpec : ChangeSpec := { name := "desigsBuildIsStable", fn := fun _ => fun
  | [d1, d2] => { results := [.lit (.bool true)], args := [d1, d2] }
  | _ => none }
def desigsBuildIsStableRow : OpenClaim := { program := "ytchlggnbgabddaa", sum := "51a9ce2c48267169a1fe8cc3168f00c62f0b33e3a294f3a62d4b845552e8cbc8", func := "zoneinfo/zoneinfolaw12.DesigsBuildIsStable", spec := "desigsBuildIsStable", inPlace := ["internal/bytealg.IndexByte", "internal/bytealg.Index"], unfollowed := true, recurses := true, named := ["internal/bytealg.MaxLen"], apart := false }
def DesigsBuildIsStableSaid : Prop := desigsBuildIsStableRow.holds Try.pinned (OpenSpec.ofChange desigsBuildIsStableSpec)

/-- ITS FALSE NEIGHBOUR: 'it returns false'. Refute it at one input. -/
def desigsBuildIsStableWrong : ChangeSpec := { name := "desigsBuildIsStable", fn := fun _ => fun
  | [d1, d2] => { results := [.lit (.bool false)], args := [d1, d2] }
  | _ => none }
def DesigsBuildIsStableWrongFalsely : Prop := desigsBuildIsStableRow.holds Try.pinned (OpenSpec.ofChange desigsBuildIsStableWrong)

/- THE SECOND FORM. 'bulk': how many values and letters a reading holds, each counted each time it is reached (what is shared counts as often as it is met; a slice's spare places count too). A statement '..UptoSaid' is the law's where the arguments, and the package variables that the reading takes, are together of bulk at most 1048576: NARROWER than '..Said'. Prove '..Said' where nothing that the law and all that it calls make is longer than what came in: it says more and counts as full. Else prove '..UptoSaid'. A law counts once. -/
mutual
def uptoBulk {H : Type} : DataW H → Nat
  | .lit (.string bytes) => bytes.length + 1
  | .lit _ => 1
  | .nil => 1
  | .ptr d => uptoBulk d + 1
  | .slice elems spare => uptoBulkAll elems + uptoBulkAll spare + 1
  | .agg parts => uptoBulkAll parts + 1
  | .iface _ d => uptoBulk d + 1
  | .map entries => uptoBulkEntries entries + 1
  | .held _ => 1
def uptoBulkAll {H : Type} : List (DataW H) → Nat
  | [] => 0
  | d :: r => uptoBulk d + uptoBulkAll r
def uptoBulkEntries {H : Type} : List (Lit × DataW H) → Nat
  | [] => 0
  | x :: r => uptoBulkEntry x + uptoBulkEntries r
def uptoBulkEntry {H : Type} : Lit × DataW H → Nat
  | (.string bytes, d) => bytes.length + uptoBulk d + 1
  | (_, d) => uptoBulk d + 1
 end
def uptoSmall : (H : Type) → List (DataW H) → Bool := fun _ ds => decide (uptoBulkAll ds ≤ 1048576)
def OpenSpec.upto (s : _root_.Go.ChangeSpec) : _root_.Go.OpenSpec := { _root_.Go.OpenSpec.ofChange s with cond := some uptoSmall }

/-- 'zoneinfolaw12.DesigsMatchReference', WHERE WHAT IT READS IS OF BULK AT MOST 1048576: true; the input reads as it did. -/
def desigsMatchReferenceUptoRow : OpenClaim := { program := "ytchlggnbgabddaa", sum := "51a9ce2c48267169a1fe8cc3168f00c62f0b33e3a294f3a62d4b845552e8cbc8", func := "zoneinfo/zoneinfolaw12.DesigsMatchReference", spec := "desigsMatchReference", inPlace := ["internal/bytealg.IndexByte", "internal/bytealg.Index"], unfollowed := true, recurses := true, named := ["internal/bytealg.MaxLen"], apart := false, narrowed := true }
def DesigsMatchReferenceUptoSaid : Prop := desigsMatchReferenceUptoRow.holds Try.pinned (OpenSpec.upto desigsMatchReferenceSpec)

/-- 'zoneinfolaw12.DesigsBuildThenName', WHERE WHAT IT READS IS OF BULK AT MOST 1048576: true; the input reads as it did. -/
def desigsBuildThenNameUptoRow : OpenClaim := { program := "ytchlggnbgabddaa", sum := "51a9ce2c48267169a1fe8cc3168f00c62f0b33e3a294f3a62d4b845552e8cbc8", func := "zoneinfo/zoneinfolaw12.DesigsBuildThenName", spec := "desigsBuildThenName", inPlace := ["internal/bytealg.IndexByte", "internal/bytealg.Index"], unfollowed := true, recurses := true, named := ["internal/bytealg.MaxLen"], apart := false, narrowed := true }
def DesigsBuildThenNameUptoSaid : Prop := desigsBuildThenNameUptoRow.holds Try.pinned (OpenSpec.upto desigsBuildThenNameSpec)

/-- 'zoneinfolaw12.DesigsNamesAreSuffixes', WHERE WHAT IT READS IS OF BULK AT MOST 1048576: true; the input reads as it did. -/
def desigsNamesAreSuffixesUptoRow : OpenClaim := { program := "ytchlggnbgabddaa", sum := "51a9ce2c48267169a1fe8cc3168f00c62f0b33e3a294f3a62d4b845552e8cbc8", func := "zoneinfo/zoneinfolaw12.DesigsNamesAreSuffixes", spec := "desigsNamesAreSuffixes", inPlace := ["internal/bytealg.IndexByte", "internal/bytealg.Index"], unfollowed := true, recurses := true, named := ["internal/bytealg.MaxLen"], apart := false, narrowed := true }
def DesigsNamesAreSuffixesUptoSaid : Prop := desigsNamesAreSuffixesUptoRow.holds Try.pinned (OpenSpec.upto desigsNamesAreSuffixesSpec)

/-- 'zoneinfolaw12.DesigsValidity', WHERE WHAT IT READS IS OF BULK AT MOST 1048576: true; the input reads as it did. -/
def desigsValidityUptoRow : OpenClaim := { program := "ytchlggnbgabddaa", sum := "51a9ce2c48267169a1fe8cc3168f00c62f0b33e3a294f3a62d4b845552e8cbc8", func := "zoneinfo/zoneinfolaw12.DesigsValidity", spec := "desigsValidity", inPlace := ["internal/bytealg.IndexByte", "internal/bytealg.Index"], unfollowed := true, recurses := true, named := ["internal/bytealg.MaxLen"], apart := false, narrowed := true }
def DesigsValidityUptoSaid : Prop := desigsValidityUptoRow.holds Try.pinned (OpenSpec.upto desigsValiditySpec)

/-- 'zoneinfolaw12.DesigsBuildIsStable', WHERE WHAT IT READS IS OF BULK AT MOST 1048576: true; the input reads as it did. -/
def desigsBuildIsStableUptoRow : OpenClaim := { program := "ytchlggnbgabddaa", sum := "51a9ce2c48267169a1fe8cc3168f00c62f0b33e3a294f3a62d4b845552e8cbc8", func := "zoneinfo/zoneinfolaw12.DesigsBuildIsStable", spec := "desigsBuildIsStable", inPlace := ["internal/bytealg.IndexByte", "internal/bytealg.Index"], unfollowed := true, recurses := true, named := ["internal/bytealg.MaxLen"], apart := false, narrowed := true }
def DesigsBuildIsStableUptoSaid : Prop := desigsBuildIsStableUptoRow.holds Try.pinned (OpenSpec.upto desigsBuildIsStableSpec)

end Rows
end Go.Proofs.Ytchlggnbgabddaa
