/-
  NARROWER THAN 'FOR EVERY INPUT', by the rows' own cells (each row's printed sentence says how): HeaderRoundTrip: laid · HeaderIsCanonical: laid · HeaderTruncation: laid · HeaderInjective: laid.
  DERIVED. THE GIVEN ROWS OF THIS SEAT. 4 by the template 'for every input the law returns true; each argument reads behind the call as it read before'; 0 by the template 'total and deterministic' (their statements: YtikgbmldbfgkdaaDoorTotals.lean).
  GIVEN WITH THE SEED: the statements are not yours to turn. If you find one false, say at which input.
  Laid BY PROGRAM, IN A SANDBOX (cutbox-rows.mjs): the forced cells as the released guide's own fill.sh prints them over the translation 4be180f9950a9c8b… (all of the seat's roots in one cut). By AI agents, Wed Nov 11 2026. No macro, syntax, notation, axiom, sorry.
-/
import Derived.Test.YtikgbmldbfgkdaaDoorChecked
import GoSem.Claim
import GoSem.ClaimJoined
import GoSem.ClaimMapViews
import Derived.JoinedTies
import Derived.KernelRfl
namespace Go.Proofs.YtikgbmldbfgkdaaDoor
/- THE CELL 'sum', in the pinned program and in every row, IS THE sha256 OF THE DUMP (.gsa) THAT YtikgbmldbfgkdaaDoorProg.lean LOADS. Nothing in Lean hashes anything: it is a label: what it is worth is what the hold of that sum in a sandbox is worth. -/
noncomputable def Tryd.pinned : Pinned := { name := "ytikgbmldbfgkdaadoor", sum := "4be180f9950a9c8b90c66fe626ee16a4bed050c142b2b17771d84b2f0a2bf589", checked := Tryd.checked }
namespace Rows
def none {H : Type} : Left H := { results := [], args := [] }

/- WHAT THE LISTED PACKAGE-LEVEL VARIABLES READ AS WHEN THE CALL BEGINS. Each datum BY PROGRAM (the guide's laid-datum.mjs) off the statement by which the dump's own 'gosem.cut.vars' lays the variable. In a bare row this is a premise. The card (YtikgbmldbfgkdaaDoorCards.lean) ties it to the program's text. -/
def laid_zoneinfo_header_versions {H : Type} : DataW H := .agg [.lit (.int .u8 0), .lit (.int .u8 0), .lit (.int .u8 50), .lit (.int .u8 51), .lit (.int .u8 52)]

/-- 'zoneinfolaw13.HeaderRoundTrip': WHATEVER THE INPUT: true; the input reads as it did. -/
def headerRoundTripSpec : ChangeSpec := { name := "headerRoundTrip", fn := fun _ => fun
  | [d1, d2, d3] => { results := [.lit (.bool true)], args := [d1, d2, d3] }
  | _ => none }
def headerRoundTripRow : OpenClaim := { program := "ytikgbmldbfgkdaadoor", sum := "4be180f9950a9c8b90c66fe626ee16a4bed050c142b2b17771d84b2f0a2bf589", func := "zoneinfo/zoneinfolaw13.HeaderRoundTrip", spec := "headerRoundTrip", unfollowed := true, recurses := true, named := ["zoneinfo/header.versions"], apart := false, laid := [("zoneinfo/header.versions", laid_zoneinfo_header_versions)] }
def HeaderRoundTripSaid : Prop := headerRoundTripRow.holds Tryd.pinned (OpenSpec.ofChange headerRoundTripSpec)

/-- ITS FALSE NEIGHBOUR: 'it returns false'. Refute it at one input. -/
def headerRoundTripWrong : ChangeSpec := { name := "headerRoundTrip", fn := fun _ => fun
  | [d1, d2, d3] => { results := [.lit (.bool false)], args := [d1, d2, d3] }
  | _ => none }
def HeaderRoundTripWrongFalsely : Prop := headerRoundTripRow.holds Tryd.pinned (OpenSpec.ofChange headerRoundTripWrong)

/-- 'zoneinfolaw13.HeaderIsCanonical': WHATEVER THE INPUT: true; the input reads as it did. -/
def headerIsCanonicalSpec : ChangeSpec := { name := "headerIsCanonical", fn := fun _ => fun
  | [d1, d2, d3] => { results := [.lit (.bool true)], args := [d1, d2, d3] }
  | _ => none }
def headerIsCanonicalRow : OpenClaim := { program := "ytikgbmldbfgkdaadoor", sum := "4be180f9950a9c8b90c66fe626ee16a4bed050c142b2b17771d84b2f0a2bf589", func := "zoneinfo/zoneinfolaw13.HeaderIsCanonical", spec := "headerIsCanonical", unfollowed := true, recurses := true, named := ["zoneinfo/header.versions"], apart := false, laid := [("zoneinfo/header.versions", laid_zoneinfo_header_versions)] }
def HeaderIsCanonicalSaid : Prop := headerIsCanonicalRow.holds Tryd.pinned (OpenSpec.ofChange headerIsCanonicalSpec)

/-- ITS FALSE NEIGHBOUR: 'it returns false'. Refute it at one input. -/
def headerIsCanonicalWrong : ChangeSpec := { name := "headerIsCanonical", fn := fun _ => fun
  | [d1, d2, d3] => { results := [.lit (.bool false)], args := [d1, d2, d3] }
  | _ => none }
def HeaderIsCanonicalWrongFalsely : Prop := headerIsCanonicalRow.holds Tryd.pinned (OpenSpec.ofChange headerIsCanonicalWrong)

/-- 'zoneinfolaw13.HeaderTruncation': WHATEVER THE INPUT: true; the input reads as it did. -/
def headerTruncationSpec : ChangeSpec := { name := "headerTruncation", fn := fun _ => fun
  | [d1, d2, d3] => { results := [.lit (.bool true)], args := [d1, d2, d3] }
  | _ => none }
def headerTruncationRow : OpenClaim := { program := "ytikgbmldbfgkdaadoor", sum := "4be180f9950a9c8b90c66fe626ee16a4bed050c142b2b17771d84b2f0a2bf589", func := "zoneinfo/zoneinfolaw13.HeaderTruncation", spec := "headerTruncation", unfollowed := true, recurses := true, named := ["zoneinfo/header.versions"], apart := false, laid := [("zoneinfo/header.versions", laid_zoneinfo_header_versions)] }
def HeaderTruncationSaid : Prop := headerTruncationRow.holds Tryd.pinned (OpenSpec.ofChange headerTruncationSpec)

/-- ITS FALSE NEIGHBOUR: 'it returns false'. Refute it at one input. -/
def headerTruncationWrong : ChangeSpec := { name := "headerTruncation", fn := fun _ => fun
  | [d1, d2, d3] => { results := [.lit (.bool false)], args := [d1, d2, d3] }
  | _ => none }
def HeaderTruncationWrongFalsely : Prop := headerTruncationRow.holds Tryd.pinned (OpenSpec.ofChange headerTruncationWrong)

/-- 'zoneinfolaw13.HeaderInjective': WHATEVER THE INPUT: true; the input reads as it did. -/
def headerInjectiveSpec : ChangeSpec := { name := "headerInjective", fn := fun _ => fun
  | [d1, d2] => { results := [.lit (.bool true)], args := [d1, d2] }
  | _ => none }
def headerInjectiveRow : OpenClaim := { program := "ytikgbmldbfgkdaadoor", sum := "4be180f9950a9c8b90c66fe626ee16a4bed050c142b2b17771d84b2f0a2bf589", func := "zoneinfo/zoneinfolaw13.HeaderInjective", spec := "headerInjective", unfollowed := true, recurses := true, named := ["zoneinfo/header.versions"], apart := false, laid := [("zoneinfo/header.versions", laid_zoneinfo_header_versions)] }
def HeaderInjectiveSaid : Prop := headerInjectiveRow.holds Tryd.pinned (OpenSpec.ofChange headerInjectiveSpec)

/-- ITS FALSE NEIGHBOUR: 'it returns false'. Refute it at one input. -/
def headerInjectiveWrong : ChangeSpec := { name := "headerInjective", fn := fun _ => fun
  | [d1, d2] => { results := [.lit (.bool false)], args := [d1, d2] }
  | _ => none }
def HeaderInjectiveWrongFalsely : Prop := headerInjectiveRow.holds Tryd.pinned (OpenSpec.ofChange headerInjectiveWrong)

/- THE SECOND FORM. 'bulk': how many values and letters a reading holds, each counted each time it is reached (what is shared counts as often as it is met; a slice's spare places count too). A statement '..UptoSaid' is the law's where the arguments, and the package variables that the reading takes, are together of bulk at most 1048576: NARROWER than '..Said'. Prove '..Said' where nothing that the law and all that it calls make is longer than what came in: it says more and counts as full. Else prove '..UptoSaid'. A law counts once. -/
mutual
def uptoBulk {H : Type} : DataW H → Nat
  | .lit (.string bytes) => bytes.length + 1
  | .lit _ => 1
  | .nil => 1
  | .ptr d => uptoBulk d + 1
  | .slice elems spare => uptoBulkAll elems + uptoBulkAll spare + 1
  | .agg parts => uptoBulkAll parts + 1
  | .iface _ d => uptoBulk d + 1
  | .map entries => uptoBulkEntries entries + 1
  | .held _ => 1
def uptoBulkAll {H : Type} : List (DataW H) → Nat
  | [] => 0
  | d :: r => uptoBulk d + uptoBulkAll r
def uptoBulkEntries {H : Type} : List (Lit × DataW H) → Nat
  | [] => 0
  | x :: r => uptoBulkEntry x + uptoBulkEntries r
def uptoBulkEntry {H : Type} : Lit × DataW H → Nat
  | (.string bytes, d) => bytes.length + uptoBulk d + 1
  | (_, d) => uptoBulk d + 1
 end
def uptoSmall : (H : Type) → List (DataW H) → Bool := fun _ ds => decide (uptoBulkAll ds ≤ 1048576)
def OpenSpec.upto (s : _root_.Go.ChangeSpec) : _root_.Go.OpenSpec := { _root_.Go.OpenSpec.ofChange s with cond := some uptoSmall }

/-- 'zoneinfolaw13.HeaderRoundTrip', WHERE WHAT IT READS IS OF BULK AT MOST 1048576: true; the input reads as it did. -/
def headerRoundTripUptoRow : OpenClaim := { program := "ytikgbmldbfgkdaadoor", sum := "4be180f9950a9c8b90c66fe626ee16a4bed050c142b2b17771d84b2f0a2bf589", func := "zoneinfo/zoneinfolaw13.HeaderRoundTrip", spec := "headerRoundTrip", unfollowed := true, recurses := true, named := ["zoneinfo/header.versions"], apart := false, laid := [("zoneinfo/header.versions", laid_zoneinfo_header_versions)], narrowed := true }
def HeaderRoundTripUptoSaid : Prop := headerRoundTripUptoRow.holds Tryd.pinned (OpenSpec.upto headerRoundTripSpec)

/-- 'zoneinfolaw13.HeaderIsCanonical', WHERE WHAT IT READS IS OF BULK AT MOST 1048576: true; the input reads as it did. -/
def headerIsCanonicalUptoRow : OpenClaim := { program := "ytikgbmldbfgkdaadoor", sum := "4be180f9950a9c8b90c66fe626ee16a4bed050c142b2b17771d84b2f0a2bf589", func := "zoneinfo/zoneinfolaw13.HeaderIsCanonical", spec := "headerIsCanonical", unfollowed := true, recurses := true, named := ["zoneinfo/header.versions"], apart := false, laid := [("zoneinfo/header.versions", laid_zoneinfo_header_versions)], narrowed := true }
def HeaderIsCanonicalUptoSaid : Prop := headerIsCanonicalUptoRow.holds Tryd.pinned (OpenSpec.upto headerIsCanonicalSpec)

/-- 'zoneinfolaw13.HeaderTruncation', WHERE WHAT IT READS IS OF BULK AT MOST 1048576: true; the input reads as it did. -/
def headerTruncationUptoRow : OpenClaim := { program := "ytikgbmldbfgkdaadoor", sum := "4be180f9950a9c8b90c66fe626ee16a4bed050c142b2b17771d84b2f0a2bf589", func := "zoneinfo/zoneinfolaw13.HeaderTruncation", spec := "headerTruncation", unfollowed := true, recurses := true, named := ["zoneinfo/header.versions"], apart := false, laid := [("zoneinfo/header.versions", laid_zoneinfo_header_versions)], narrowed := true }
def HeaderTruncationUptoSaid : Prop := headerTruncationUptoRow.holds Tryd.pinned (OpenSpec.upto headerTruncationSpec)

/-- 'zoneinfolaw13.HeaderInjective', WHERE WHAT IT READS IS OF BULK AT MOST 1048576: true; the input reads as it did. -/
def headerInjectiveUptoRow : OpenClaim := { program := "ytikgbmldbfgkdaadoor", sum := "4be180f9950a9c8b90c66fe626ee16a4bed050c142b2b17771d84b2f0a2bf589", func := "zoneinfo/zoneinfolaw13.HeaderInjective", spec := "headerInjective", unfollowed := true, recurses := true, named := ["zoneinfo/header.versions"], apart := false, laid := [("zoneinfo/header.versions", laid_zoneinfo_header_versions)], narrowed := true }
def HeaderInjectiveUptoSaid : Prop := headerInjectiveUptoRow.holds Tryd.pinned (OpenSpec.upto headerInjectiveSpec)

end Rows
end Go.Proofs.YtikgbmldbfgkdaaDoor
