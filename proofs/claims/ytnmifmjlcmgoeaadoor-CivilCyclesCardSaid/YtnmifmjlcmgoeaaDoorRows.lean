/-
  NARROWER THAN 'FOR EVERY INPUT', by the rows' own cells (each row's printed sentence says how): CivilMatchesReference: laid · CivilRoundTrip: laid · CivilNextDay: laid · CivilCycles: laid · CivilMonotone: laid.
  DERIVED. THE GIVEN ROWS OF THIS SEAT. 5 by the template 'for every input the law returns true; each argument reads behind the call as it read before'; 0 by the template 'total and deterministic' (their statements: YtnmifmjlcmgoeaaDoorTotals.lean).
  GIVEN WITH THE SEED: the statements are not yours to turn. If you find one false, say at which input.
  Laid BY PROGRAM, IN A SANDBOX (cutbox-rows.mjs): the forced cells as the released guide's own fill.sh prints them over the translation 9936234e45ec3b10… (all of the seat's roots in one cut). By AI agents, Wed Nov 11 2026. No macro, syntax, notation, axiom, sorry.
-/
import Derived.Test.YtnmifmjlcmgoeaaDoorChecked
import GoSem.Claim
import GoSem.ClaimJoined
import GoSem.ClaimMapViews
import Derived.JoinedTies
import Derived.KernelRfl
namespace Go.Proofs.YtnmifmjlcmgoeaaDoor
/- THE CELL 'sum', in the pinned program and in every row, IS THE sha256 OF THE DUMP (.gsa) THAT YtnmifmjlcmgoeaaDoorProg.lean LOADS. Nothing in Lean hashes anything: it is a label: what it is worth is what the hold of that sum in a sandbox is worth. -/
noncomputable def Tryd.pinned : Pinned := { name := "ytnmifmjlcmgoeaadoor", sum := "9936234e45ec3b1027e45936801f74e468cdc8b6f2aeb145ea6c4be5bd6004b4", checked := Tryd.checked }
namespace Rows
def none {H : Type} : Left H := { results := [], args := [] }

/- WHAT THE LISTED PACKAGE-LEVEL VARIABLES READ AS WHEN THE CALL BEGINS. Each datum BY PROGRAM (the guide's laid-datum.mjs) off the statement by which the dump's own 'gosem.cut.vars' lays the variable. In a bare row this is a premise. The card (YtnmifmjlcmgoeaaDoorCards.lean) ties it to the program's text. -/
def laid_zoneinfo_civil_lengths {H : Type} : DataW H := .agg [.lit (.int .i64 0), .lit (.int .i64 31), .lit (.int .i64 28), .lit (.int .i64 31), .lit (.int .i64 30), .lit (.int .i64 31), .lit (.int .i64 30), .lit (.int .i64 31), .lit (.int .i64 31), .lit (.int .i64 30), .lit (.int .i64 31), .lit (.int .i64 30), .lit (.int .i64 31)]

/-- 'zoneinfolaw04.CivilMatchesReference': WHATEVER THE INPUT: true; the input reads as it did. -/
def civilMatchesReferenceSpec : ChangeSpec := { name := "civilMatchesReference", fn := fun _ => fun
  | [d1, d2, d3, d4] => { results := [.lit (.bool true)], args := [d1, d2, d3, d4] }
  | _ => none }
def civilMatchesReferenceRow : OpenClaim := { program := "ytnmifmjlcmgoeaadoor", sum := "9936234e45ec3b1027e45936801f74e468cdc8b6f2aeb145ea6c4be5bd6004b4", func := "zoneinfo/zoneinfolaw04.CivilMatchesReference", spec := "civilMatchesReference", named := ["zoneinfo/civil.lengths"], apart := false, laid := [("zoneinfo/civil.lengths", laid_zoneinfo_civil_lengths)] }
def CivilMatchesReferenceSaid : Prop := civilMatchesReferenceRow.holds Tryd.pinned (OpenSpec.ofChange civilMatchesReferenceSpec)

/-- ITS FALSE NEIGHBOUR: 'it returns false'. Refute it at one input. -/
def civilMatchesReferenceWrong : ChangeSpec := { name := "civilMatchesReference", fn := fun _ => fun
  | [d1, d2, d3, d4] => { results := [.lit (.bool false)], args := [d1, d2, d3, d4] }
  | _ => none }
def CivilMatchesReferenceWrongFalsely : Prop := civilMatchesReferenceRow.holds Tryd.pinned (OpenSpec.ofChange civilMatchesReferenceWrong)

/-- 'zoneinfolaw04.CivilRoundTrip': WHATEVER THE INPUT: true; the input reads as it did. -/
def civilRoundTripSpec : ChangeSpec := { name := "civilRoundTrip", fn := fun _ => fun
  | [d1, d2, d3, d4] => { results := [.lit (.bool true)], args := [d1, d2, d3, d4] }
  | _ => none }
def civilRoundTripRow : OpenClaim := { program := "ytnmifmjlcmgoeaadoor", sum := "9936234e45ec3b1027e45936801f74e468cdc8b6f2aeb145ea6c4be5bd6004b4", func := "zoneinfo/zoneinfolaw04.CivilRoundTrip", spec := "civilRoundTrip", named := ["zoneinfo/civil.lengths"], apart := false, laid := [("zoneinfo/civil.lengths", laid_zoneinfo_civil_lengths)] }
def CivilRoundTripSaid : Prop := civilRoundTripRow.holds Tryd.pinned (OpenSpec.ofChange civilRoundTripSpec)

/-- ITS FALSE NEIGHBOUR: 'it returns false'. Refute it at one input. -/
def civilRoundTripWrong : ChangeSpec := { name := "civilRoundTrip", fn := fun _ => fun
  | [d1, d2, d3, d4] => { results := [.lit (.bool false)], args := [d1, d2, d3, d4] }
  | _ => none }
def CivilRoundTripWrongFalsely : Prop := civilRoundTripRow.holds Tryd.pinned (OpenSpec.ofChange civilRoundTripWrong)

/-- 'zoneinfolaw04.CivilNextDay': WHATEVER THE INPUT: true; the input reads as it did. -/
def civilNextDaySpec : ChangeSpec := { name := "civilNextDay", fn := fun _ => fun
  | [d1, d2, d3] => { results := [.lit (.bool true)], args := [d1, d2, d3] }
  | _ => none }
def civilNextDayRow : OpenClaim := { program := "ytnmifmjlcmgoeaadoor", sum := "9936234e45ec3b1027e45936801f74e468cdc8b6f2aeb145ea6c4be5bd6004b4", func := "zoneinfo/zoneinfolaw04.CivilNextDay", spec := "civilNextDay", named := ["zoneinfo/civil.lengths"], apart := false, laid := [("zoneinfo/civil.lengths", laid_zoneinfo_civil_lengths)] }
def CivilNextDaySaid : Prop := civilNextDayRow.holds Tryd.pinned (OpenSpec.ofChange civilNextDaySpec)

/-- ITS FALSE NEIGHBOUR: 'it returns false'. Refute it at one input. -/
def civilNextDayWrong : ChangeSpec := { name := "civilNextDay", fn := fun _ => fun
  | [d1, d2, d3] => { results := [.lit (.bool false)], args := [d1, d2, d3] }
  | _ => none }
def CivilNextDayWrongFalsely : Prop := civilNextDayRow.holds Tryd.pinned (OpenSpec.ofChange civilNextDayWrong)

/-- 'zoneinfolaw04.CivilCycles': WHATEVER THE INPUT: true; the input reads as it did. -/
def civilCyclesSpec : ChangeSpec := { name := "civilCycles", fn := fun _ => fun
  | [d1, d2, d3] => { results := [.lit (.bool true)], args := [d1, d2, d3] }
  | _ => none }
def civilCyclesRow : OpenClaim := { program := "ytnmifmjlcmgoeaadoor", sum := "9936234e45ec3b1027e45936801f74e468cdc8b6f2aeb145ea6c4be5bd6004b4", func := "zoneinfo/zoneinfolaw04.CivilCycles", spec := "civilCycles", named := ["zoneinfo/civil.lengths"], apart := false, laid := [("zoneinfo/civil.lengths", laid_zoneinfo_civil_lengths)] }
def CivilCyclesSaid : Prop := civilCyclesRow.holds Tryd.pinned (OpenSpec.ofChange civilCyclesSpec)

/-- ITS FALSE NEIGHBOUR: 'it returns false'. Refute it at one input. -/
def civilCyclesWrong : ChangeSpec := { name := "civilCycles", fn := fun _ => fun
  | [d1, d2, d3] => { results := [.lit (.bool false)], args := [d1, d2, d3] }
  | _ => none }
def CivilCyclesWrongFalsely : Prop := civilCyclesRow.holds Tryd.pinned (OpenSpec.ofChange civilCyclesWrong)

/-- 'zoneinfolaw04.CivilMonotone': WHATEVER THE INPUT: true; the input reads as it did. -/
def civilMonotoneSpec : ChangeSpec := { name := "civilMonotone", fn := fun _ => fun
  | [d1, d2, d3, d4, d5] => { results := [.lit (.bool true)], args := [d1, d2, d3, d4, d5] }
  | _ => none }
def civilMonotoneRow : OpenClaim := { program := "ytnmifmjlcmgoeaadoor", sum := "9936234e45ec3b1027e45936801f74e468cdc8b6f2aeb145ea6c4be5bd6004b4", func := "zoneinfo/zoneinfolaw04.CivilMonotone", spec := "civilMonotone", named := ["zoneinfo/civil.lengths"], apart := false, laid := [("zoneinfo/civil.lengths", laid_zoneinfo_civil_lengths)] }
def CivilMonotoneSaid : Prop := civilMonotoneRow.holds Tryd.pinned (OpenSpec.ofChange civilMonotoneSpec)

/-- ITS FALSE NEIGHBOUR: 'it returns false'. Refute it at one input. -/
def civilMonotoneWrong : ChangeSpec := { name := "civilMonotone", fn := fun _ => fun
  | [d1, d2, d3, d4, d5] => { results := [.lit (.bool false)], args := [d1, d2, d3, d4, d5] }
  | _ => none }
def CivilMonotoneWrongFalsely : Prop := civilMonotoneRow.holds Tryd.pinned (OpenSpec.ofChange civilMonotoneWrong)

/- THE SECOND FORM. 'bulk': how many values and letters a reading holds, each counted each time it is reached (what is shared counts as often as it is met; a slice's spare places count too). A statement '..UptoSaid' is the law's where the arguments, and the package variables that the reading takes, are together of bulk at most 1048576: NARROWER than '..Said'. Prove '..Said' where nothing that the law and all that it calls make is longer than what came in: it says more and counts as full. Else prove '..UptoSaid'. A law counts once. -/
mutual
def uptoBulk {H : Type} : DataW H → Nat
  | .lit (.string bytes) => bytes.length + 1
  | .lit _ => 1
  | .nil => 1
  | .ptr d => uptoBulk d + 1
  | .slice elems spare => uptoBulkAll elems + uptoBulkAll spare + 1
  | .agg parts => uptoBulkAll parts + 1
  | .iface _ d => uptoBulk d + 1
  | .map entries => uptoBulkEntries entries + 1
  | .held _ => 1
def uptoBulkAll {H : Type} : List (DataW H) → Nat
  | [] => 0
  | d :: r => uptoBulk d + uptoBulkAll r
def uptoBulkEntries {H : Type} : List (Lit × DataW H) → Nat
  | [] => 0
  | x :: r => uptoBulkEntry x + uptoBulkEntries r
def uptoBulkEntry {H : Type} : Lit × DataW H → Nat
  | (.string bytes, d) => bytes.length + uptoBulk d + 1
  | (_, d) => uptoBulk d + 1
 end
def uptoSmall : (H : Type) → List (DataW H) → Bool := fun _ ds => decide (uptoBulkAll ds ≤ 1048576)
def OpenSpec.upto (s : _root_.Go.ChangeSpec) : _root_.Go.OpenSpec := { _root_.Go.OpenSpec.ofChange s with cond := some uptoSmall }

/-- 'zoneinfolaw04.CivilMatchesReference', WHERE WHAT IT READS IS OF BULK AT MOST 1048576: true; the input reads as it did. -/
def civilMatchesReferenceUptoRow : OpenClaim := { program := "ytnmifmjlcmgoeaadoor", sum := "9936234e45ec3b1027e45936801f74e468cdc8b6f2aeb145ea6c4be5bd6004b4", func := "zoneinfo/zoneinfolaw04.CivilMatchesReference", spec := "civilMatchesReference", named := ["zoneinfo/civil.lengths"], apart := false, laid := [("zoneinfo/civil.lengths", laid_zoneinfo_civil_lengths)], narrowed := true }
def CivilMatchesReferenceUptoSaid : Prop := civilMatchesReferenceUptoRow.holds Tryd.pinned (OpenSpec.upto civilMatchesReferenceSpec)

/-- 'zoneinfolaw04.CivilRoundTrip', WHERE WHAT IT READS IS OF BULK AT MOST 1048576: true; the input reads as it did. -/
def civilRoundTripUptoRow : OpenClaim := { program := "ytnmifmjlcmgoeaadoor", sum := "9936234e45ec3b1027e45936801f74e468cdc8b6f2aeb145ea6c4be5bd6004b4", func := "zoneinfo/zoneinfolaw04.CivilRoundTrip", spec := "civilRoundTrip", named := ["zoneinfo/civil.lengths"], apart := false, laid := [("zoneinfo/civil.lengths", laid_zoneinfo_civil_lengths)], narrowed := true }
def CivilRoundTripUptoSaid : Prop := civilRoundTripUptoRow.holds Tryd.pinned (OpenSpec.upto civilRoundTripSpec)

/-- 'zoneinfolaw04.CivilNextDay', WHERE WHAT IT READS IS OF BULK AT MOST 1048576: true; the input reads as it did. -/
def civilNextDayUptoRow : OpenClaim := { program := "ytnmifmjlcmgoeaadoor", sum := "9936234e45ec3b1027e45936801f74e468cdc8b6f2aeb145ea6c4be5bd6004b4", func := "zoneinfo/zoneinfolaw04.CivilNextDay", spec := "civilNextDay", named := ["zoneinfo/civil.lengths"], apart := false, laid := [("zoneinfo/civil.lengths", laid_zoneinfo_civil_lengths)], narrowed := true }
def CivilNextDayUptoSaid : Prop := civilNextDayUptoRow.holds Tryd.pinned (OpenSpec.upto civilNextDaySpec)

/-- 'zoneinfolaw04.CivilCycles', WHERE WHAT IT READS IS OF BULK AT MOST 1048576: true; the input reads as it did. -/
def civilCyclesUptoRow : OpenClaim := { program := "ytnmifmjlcmgoeaadoor", sum := "9936234e45ec3b1027e45936801f74e468cdc8b6f2aeb145ea6c4be5bd6004b4", func := "zoneinfo/zoneinfolaw04.CivilCycles", spec := "civilCycles", named := ["zoneinfo/civil.lengths"], apart := false, laid := [("zoneinfo/civil.lengths", laid_zoneinfo_civil_lengths)], narrowed := true }
def CivilCyclesUptoSaid : Prop := civilCyclesUptoRow.holds Tryd.pinned (OpenSpec.upto civilCyclesSpec)

/-- 'zoneinfolaw04.CivilMonotone', WHERE WHAT IT READS IS OF BULK AT MOST 1048576: true; the input reads as it did. -/
def civilMonotoneUptoRow : OpenClaim := { program := "ytnmifmjlcmgoeaadoor", sum := "9936234e45ec3b1027e45936801f74e468cdc8b6f2aeb145ea6c4be5bd6004b4", func := "zoneinfo/zoneinfolaw04.CivilMonotone", spec := "civilMonotone", named := ["zoneinfo/civil.lengths"], apart := false, laid := [("zoneinfo/civil.lengths", laid_zoneinfo_civil_lengths)], narrowed := true }
def CivilMonotoneUptoSaid : Prop := civilMonotoneUptoRow.holds Tryd.pinned (OpenSpec.upto civilMonotoneSpec)

end Rows
end Go.Proofs.YtnmifmjlcmgoeaaDoor
