/-
  NARROWER THAN 'FOR EVERY INPUT', by the rows' own cells (each row's printed sentence says how): DatetimeMatchesReference: laid · DatetimeRoundTrip: laid · DatetimeOrder: laid · DatetimeYears: laid · DatetimeFields: laid.
  DERIVED. THE GIVEN ROWS OF THIS SEAT. 5 by the template 'for every input the law returns true; each argument reads behind the call as it read before'; 0 by the template 'total and deterministic' (their statements: YtmfffkmnddeajaaDoorTotals.lean).
  GIVEN WITH THE SEED: the statements are not yours to turn. If you find one false, say at which input.
  Laid BY PROGRAM, IN A SANDBOX (cutbox-rows.mjs): the forced cells as the released guide's own fill.sh prints them over the translation f442c00637568f2a… (all of the seat's roots in one cut). By AI agents, Wed Nov 11 2026. No macro, syntax, notation, axiom, sorry.
-/
import Derived.Test.YtmfffkmnddeajaaDoorChecked
import GoSem.Claim
import GoSem.ClaimJoined
import GoSem.ClaimMapViews
import Derived.JoinedTies
import Derived.KernelRfl
namespace Go.Proofs.YtmfffkmnddeajaaDoor
/- THE CELL 'sum', in the pinned program and in every row, IS THE sha256 OF THE DUMP (.gsa) THAT YtmfffkmnddeajaaDoorProg.lean LOADS. Nothing in Lean hashes anything: it is a label: what it is worth is what the hold of that sum in a sandbox is worth. -/
noncomputable def Tryd.pinned : Pinned := { name := "ytmfffkmnddeajaadoor", sum := "f442c00637568f2aafa51aa7b915b77f6fd08cfc2954f7a65b526c95e5265fac", checked := Tryd.checked }
namespace Rows
def none {H : Type} : Left H := { results := [], args := [] }

/- WHAT THE LISTED PACKAGE-LEVEL VARIABLES READ AS WHEN THE CALL BEGINS. Each datum BY PROGRAM (the guide's laid-datum.mjs) off the statement by which the dump's own 'gosem.cut.vars' lays the variable. In a bare row this is a premise. The card (YtmfffkmnddeajaaDoorCards.lean) ties it to the program's text. -/
def laid_zoneinfo_civil_lengths {H : Type} : DataW H := .agg [.lit (.int .i64 0), .lit (.int .i64 31), .lit (.int .i64 28), .lit (.int .i64 31), .lit (.int .i64 30), .lit (.int .i64 31), .lit (.int .i64 30), .lit (.int .i64 31), .lit (.int .i64 31), .lit (.int .i64 30), .lit (.int .i64 31), .lit (.int .i64 30), .lit (.int .i64 31)]

/-- 'zoneinfolaw05.DatetimeMatchesReference': WHATEVER THE INPUT: true; the input reads as it did. -/
def datetimeMatchesReferenceSpec : ChangeSpec := { name := "datetimeMatchesReference", fn := fun _ => fun
  | [d1, d2] => { results := [.lit (.bool true)], args := [d1, d2] }
  | _ => none }
def datetimeMatchesReferenceRow : OpenClaim := { program := "ytmfffkmnddeajaadoor", sum := "f442c00637568f2aafa51aa7b915b77f6fd08cfc2954f7a65b526c95e5265fac", func := "zoneinfo/zoneinfolaw05.DatetimeMatchesReference", spec := "datetimeMatchesReference", named := ["zoneinfo/civil.lengths"], apart := false, laid := [("zoneinfo/civil.lengths", laid_zoneinfo_civil_lengths)] }
def DatetimeMatchesReferenceSaid : Prop := datetimeMatchesReferenceRow.holds Tryd.pinned (OpenSpec.ofChange datetimeMatchesReferenceSpec)

/-- ITS FALSE NEIGHBOUR: 'it returns false'. Refute it at one input. -/
def datetimeMatchesReferenceWrong : ChangeSpec := { name := "datetimeMatchesReference", fn := fun _ => fun
  | [d1, d2] => { results := [.lit (.bool false)], args := [d1, d2] }
  | _ => none }
def DatetimeMatchesReferenceWrongFalsely : Prop := datetimeMatchesReferenceRow.holds Tryd.pinned (OpenSpec.ofChange datetimeMatchesReferenceWrong)

/-- 'zoneinfolaw05.DatetimeRoundTrip': WHATEVER THE INPUT: true; the input reads as it did. -/
def datetimeRoundTripSpec : ChangeSpec := { name := "datetimeRoundTrip", fn := fun _ => fun
  | [d1, d2] => { results := [.lit (.bool true)], args := [d1, d2] }
  | _ => none }
def datetimeRoundTripRow : OpenClaim := { program := "ytmfffkmnddeajaadoor", sum := "f442c00637568f2aafa51aa7b915b77f6fd08cfc2954f7a65b526c95e5265fac", func := "zoneinfo/zoneinfolaw05.DatetimeRoundTrip", spec := "datetimeRoundTrip", named := ["zoneinfo/civil.lengths"], apart := false, laid := [("zoneinfo/civil.lengths", laid_zoneinfo_civil_lengths)] }
def DatetimeRoundTripSaid : Prop := datetimeRoundTripRow.holds Tryd.pinned (OpenSpec.ofChange datetimeRoundTripSpec)

/-- ITS FALSE NEIGHBOUR: 'it returns false'. Refute it at one input. -/
def datetimeRoundTripWrong : ChangeSpec := { name := "datetimeRoundTrip", fn := fun _ => fun
  | [d1, d2] => { results := [.lit (.bool false)], args := [d1, d2] }
  | _ => none }
def DatetimeRoundTripWrongFalsely : Prop := datetimeRoundTripRow.holds Tryd.pinned (OpenSpec.ofChange datetimeRoundTripWrong)

/-- 'zoneinfolaw05.DatetimeOrder': WHATEVER THE INPUT: true; the input reads as it did. -/
def datetimeOrderSpec : ChangeSpec := { name := "datetimeOrder", fn := fun _ => fun
  | [d1, d2] => { results := [.lit (.bool true)], args := [d1, d2] }
  | _ => none }
def datetimeOrderRow : OpenClaim := { program := "ytmfffkmnddeajaadoor", sum := "f442c00637568f2aafa51aa7b915b77f6fd08cfc2954f7a65b526c95e5265fac", func := "zoneinfo/zoneinfolaw05.DatetimeOrder", spec := "datetimeOrder", named := ["zoneinfo/civil.lengths"], apart := false, laid := [("zoneinfo/civil.lengths", laid_zoneinfo_civil_lengths)] }
def DatetimeOrderSaid : Prop := datetimeOrderRow.holds Tryd.pinned (OpenSpec.ofChange datetimeOrderSpec)

/-- ITS FALSE NEIGHBOUR: 'it returns false'. Refute it at one input. -/
def datetimeOrderWrong : ChangeSpec := { name := "datetimeOrder", fn := fun _ => fun
  | [d1, d2] => { results := [.lit (.bool false)], args := [d1, d2] }
  | _ => none }
def DatetimeOrderWrongFalsely : Prop := datetimeOrderRow.holds Tryd.pinned (OpenSpec.ofChange datetimeOrderWrong)

/-- 'zoneinfolaw05.DatetimeYears': WHATEVER THE INPUT: true; the input reads as it did. -/
def datetimeYearsSpec : ChangeSpec := { name := "datetimeYears", fn := fun _ => fun
  | [d] => { results := [.lit (.bool true)], args := [d] }
  | _ => none }
def datetimeYearsRow : OpenClaim := { program := "ytmfffkmnddeajaadoor", sum := "f442c00637568f2aafa51aa7b915b77f6fd08cfc2954f7a65b526c95e5265fac", func := "zoneinfo/zoneinfolaw05.DatetimeYears", spec := "datetimeYears", named := ["zoneinfo/civil.lengths"], apart := false, laid := [("zoneinfo/civil.lengths", laid_zoneinfo_civil_lengths)] }
def DatetimeYearsSaid : Prop := datetimeYearsRow.holds Tryd.pinned (OpenSpec.ofChange datetimeYearsSpec)

/-- ITS FALSE NEIGHBOUR: 'it returns false'. Refute it at one input. -/
def datetimeYearsWrong : ChangeSpec := { name := "datetimeYears", fn := fun _ => fun
  | [d] => { results := [.lit (.bool false)], args := [d] }
  | _ => none }
def DatetimeYearsWrongFalsely : Prop := datetimeYearsRow.holds Tryd.pinned (OpenSpec.ofChange datetimeYearsWrong)

/-- 'zoneinfolaw05.DatetimeFields': WHATEVER THE INPUT: true; the input reads as it did. -/
def datetimeFieldsSpec : ChangeSpec := { name := "datetimeFields", fn := fun _ => fun
  | [d] => { results := [.lit (.bool true)], args := [d] }
  | _ => none }
def datetimeFieldsRow : OpenClaim := { program := "ytmfffkmnddeajaadoor", sum := "f442c00637568f2aafa51aa7b915b77f6fd08cfc2954f7a65b526c95e5265fac", func := "zoneinfo/zoneinfolaw05.DatetimeFields", spec := "datetimeFields", named := ["zoneinfo/civil.lengths"], apart := false, laid := [("zoneinfo/civil.lengths", laid_zoneinfo_civil_lengths)] }
def DatetimeFieldsSaid : Prop := datetimeFieldsRow.holds Tryd.pinned (OpenSpec.ofChange datetimeFieldsSpec)

/-- ITS FALSE NEIGHBOUR: 'it returns false'. Refute it at one input. -/
def datetimeFieldsWrong : ChangeSpec := { name := "datetimeFields", fn := fun _ => fun
  | [d] => { results := [.lit (.bool false)], args := [d] }
  | _ => none }
def DatetimeFieldsWrongFalsely : Prop := datetimeFieldsRow.holds Tryd.pinned (OpenSpec.ofChange datetimeFieldsWrong)

/- THE SECOND FORM. 'bulk': how many values and letters a reading holds, each counted each time it is reached (what is shared counts as often as it is met; a slice's spare places count too). A statement '..UptoSaid' is the law's where the arguments, and the package variables that the reading takes, are together of bulk at most 1048576: NARROWER than '..Said'. Prove '..Said' where nothing that the law and all that it calls make is longer than what came in: it says more and counts as full. Else prove '..UptoSaid'. A law counts once. -/
mutual
def uptoBulk {H : Type} : DataW H → Nat
  | .lit (.string bytes) => bytes.length + 1
  | .lit _ => 1
  | .nil => 1
  | .ptr d => uptoBulk d + 1
  | .slice elems spare => uptoBulkAll elems + uptoBulkAll spare + 1
  | .agg parts => uptoBulkAll parts + 1
  | .iface _ d => uptoBulk d + 1
  | .map entries => uptoBulkEntries entries + 1
  | .held _ => 1
def uptoBulkAll {H : Type} : List (DataW H) → Nat
  | [] => 0
  | d :: r => uptoBulk d + uptoBulkAll r
def uptoBulkEntries {H : Type} : List (Lit × DataW H) → Nat
  | [] => 0
  | x :: r => uptoBulkEntry x + uptoBulkEntries r
def uptoBulkEntry {H : Type} : Lit × DataW H → Nat
  | (.string bytes, d) => bytes.length + uptoBulk d + 1
  | (_, d) => uptoBulk d + 1
 end
def uptoSmall : (H : Type) → List (DataW H) → Bool := fun _ ds => decide (uptoBulkAll ds ≤ 1048576)
def OpenSpec.upto (s : _root_.Go.ChangeSpec) : _root_.Go.OpenSpec := { _root_.Go.OpenSpec.ofChange s with cond := some uptoSmall }

/-- 'zoneinfolaw05.DatetimeMatchesReference', WHERE WHAT IT READS IS OF BULK AT MOST 1048576: true; the input reads as it did. -/
def datetimeMatchesReferenceUptoRow : OpenClaim := { program := "ytmfffkmnddeajaadoor", sum := "f442c00637568f2aafa51aa7b915b77f6fd08cfc2954f7a65b526c95e5265fac", func := "zoneinfo/zoneinfolaw05.DatetimeMatchesReference", spec := "datetimeMatchesReference", named := ["zoneinfo/civil.lengths"], apart := false, laid := [("zoneinfo/civil.lengths", laid_zoneinfo_civil_lengths)], narrowed := true }
def DatetimeMatchesReferenceUptoSaid : Prop := datetimeMatchesReferenceUptoRow.holds Tryd.pinned (OpenSpec.upto datetimeMatchesReferenceSpec)

/-- 'zoneinfolaw05.DatetimeRoundTrip', WHERE WHAT IT READS IS OF BULK AT MOST 1048576: true; the input reads as it did. -/
def datetimeRoundTripUptoRow : OpenClaim := { program := "ytmfffkmnddeajaadoor", sum := "f442c00637568f2aafa51aa7b915b77f6fd08cfc2954f7a65b526c95e5265fac", func := "zoneinfo/zoneinfolaw05.DatetimeRoundTrip", spec := "datetimeRoundTrip", named := ["zoneinfo/civil.lengths"], apart := false, laid := [("zoneinfo/civil.lengths", laid_zoneinfo_civil_lengths)], narrowed := true }
def DatetimeRoundTripUptoSaid : Prop := datetimeRoundTripUptoRow.holds Tryd.pinned (OpenSpec.upto datetimeRoundTripSpec)

/-- 'zoneinfolaw05.DatetimeOrder', WHERE WHAT IT READS IS OF BULK AT MOST 1048576: true; the input reads as it did. -/
def datetimeOrderUptoRow : OpenClaim := { program := "ytmfffkmnddeajaadoor", sum := "f442c00637568f2aafa51aa7b915b77f6fd08cfc2954f7a65b526c95e5265fac", func := "zoneinfo/zoneinfolaw05.DatetimeOrder", spec := "datetimeOrder", named := ["zoneinfo/civil.lengths"], apart := false, laid := [("zoneinfo/civil.lengths", laid_zoneinfo_civil_lengths)], narrowed := true }
def DatetimeOrderUptoSaid : Prop := datetimeOrderUptoRow.holds Tryd.pinned (OpenSpec.upto datetimeOrderSpec)

/-- 'zoneinfolaw05.DatetimeYears', WHERE WHAT IT READS IS OF BULK AT MOST 1048576: true; the input reads as it did. -/
def datetimeYearsUptoRow : OpenClaim := { program := "ytmfffkmnddeajaadoor", sum := "f442c00637568f2aafa51aa7b915b77f6fd08cfc2954f7a65b526c95e5265fac", func := "zoneinfo/zoneinfolaw05.DatetimeYears", spec := "datetimeYears", named := ["zoneinfo/civil.lengths"], apart := false, laid := [("zoneinfo/civil.lengths", laid_zoneinfo_civil_lengths)], narrowed := true }
def DatetimeYearsUptoSaid : Prop := datetimeYearsUptoRow.holds Tryd.pinned (OpenSpec.upto datetimeYearsSpec)

/-- 'zoneinfolaw05.DatetimeFields', WHERE WHAT IT READS IS OF BULK AT MOST 1048576: true; the input reads as it did. -/
def datetimeFieldsUptoRow : OpenClaim := { program := "ytmfffkmnddeajaadoor", sum := "f442c00637568f2aafa51aa7b915b77f6fd08cfc2954f7a65b526c95e5265fac", func := "zoneinfo/zoneinfolaw05.DatetimeFields", spec := "datetimeFields", named := ["zoneinfo/civil.lengths"], apart := false, laid := [("zoneinfo/civil.lengths", laid_zoneinfo_civil_lengths)], narrowed := true }
def DatetimeFieldsUptoSaid : Prop := datetimeFieldsUptoRow.holds Tryd.pinned (OpenSpec.upto datetimeFieldsSpec)

end Rows
end Go.Proofs.YtmfffkmnddeajaaDoor
