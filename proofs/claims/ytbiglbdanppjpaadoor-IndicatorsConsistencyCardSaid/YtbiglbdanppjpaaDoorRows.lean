/-
  NARROWER THAN 'FOR EVERY INPUT', by the rows' own cells (each row's printed sentence says how): IndicatorsMatchReference: laid · IndicatorsRoundTrip: laid · IndicatorsConsistency: laid · IndicatorsConcatenate: laid.
  DERIVED. THE GIVEN ROWS OF THIS SEAT. 4 by the template 'for every input the law returns true; each argument reads behind the call as it read before'; 0 by the template 'total and deterministic' (their statements: YtbiglbdanppjpaaDoorTotals.lean).
  GIVEN WITH THE SEED: the statements are not yours to turn. If you find one false, say at which input.
  Laid BY PROGRAM, IN A SANDBOX (cutbox-rows.mjs): the forced cells as the released guide's own fill.sh prints them over the translation 89b3daca54126bb6… (all of the seat's roots in one cut). By AI agents, Wed Nov 11 2026. No macro, syntax, notation, axiom, sorry.
-/
import Derived.Test.YtbiglbdanppjpaaDoorChecked
import GoSem.Claim
import GoSem.ClaimJoined
import GoSem.ClaimMapViews
import Derived.JoinedTies
import Derived.KernelRfl
namespace Go.Proofs.YtbiglbdanppjpaaDoor
/- THE CELL 'sum', in the pinned program and in every row, IS THE sha256 OF THE DUMP (.gsa) THAT YtbiglbdanppjpaaDoorProg.lean LOADS. Nothing in Lean hashes anything: it is a label: what it is worth is what the hold of that sum in a sandbox is worth. -/
noncomputable def Tryd.pinned : Pinned := { name := "ytbiglbdanppjpaadoor", sum := "89b3daca54126bb6efb58a6049a5f8e3075b5b6f0d5753e08c2d0ca7e86fbcdf", checked := Tryd.checked }
namespace Rows
def none {H : Type} : Left H := { results := [], args := [] }

/- WHAT THE LISTED PACKAGE-LEVEL VARIABLES READ AS WHEN THE CALL BEGINS. Each datum BY PROGRAM (the guide's laid-datum.mjs) off the statement by which the dump's own 'gosem.cut.vars' lays the variable. In a bare row this is a premise. The card (YtbiglbdanppjpaaDoorCards.lean) ties it to the program's text. -/
def laid_zoneinfo_indicators_flags {H : Type} : DataW H := .agg [.lit (.bool false), .lit (.bool true)]

/-- 'zoneinfolaw18.IndicatorsMatchReference': WHATEVER THE INPUT: true; the input reads as it did. -/
def indicatorsMatchReferenceSpec : ChangeSpec := { name := "indicatorsMatchReference", fn := fun _ => fun
  | [d1, d2, d3] => { results := [.lit (.bool true)], args := [d1, d2, d3] }
  | _ => none }
def indicatorsMatchReferenceRow : OpenClaim := { program := "ytbiglbdanppjpaadoor", sum := "89b3daca54126bb6efb58a6049a5f8e3075b5b6f0d5753e08c2d0ca7e86fbcdf", func := "zoneinfo/zoneinfolaw18.IndicatorsMatchReference", spec := "indicatorsMatchReference", named := ["zoneinfo/indicators.flags"], apart := false, laid := [("zoneinfo/indicators.flags", laid_zoneinfo_indicators_flags)] }
def IndicatorsMatchReferenceSaid : Prop := indicatorsMatchReferenceRow.holds Tryd.pinned (OpenSpec.ofChange indicatorsMatchReferenceSpec)

/-- ITS FALSE NEIGHBOUR: 'it returns false'. Refute it at one input. -/
def indicatorsMatchReferenceWrong : ChangeSpec := { name := "indicatorsMatchReference", fn := fun _ => fun
  | [d1, d2, d3] => { results := [.lit (.bool false)], args := [d1, d2, d3] }
  | _ => none }
def IndicatorsMatchReferenceWrongFalsely : Prop := indicatorsMatchReferenceRow.holds Tryd.pinned (OpenSpec.ofChange indicatorsMatchReferenceWrong)

/-- 'zoneinfolaw18.IndicatorsRoundTrip': WHATEVER THE INPUT: true; the input reads as it did. -/
def indicatorsRoundTripSpec : ChangeSpec := { name := "indicatorsRoundTrip", fn := fun _ => fun
  | [d1, d2, d3] => { results := [.lit (.bool true)], args := [d1, d2, d3] }
  | _ => none }
def indicatorsRoundTripRow : OpenClaim := { program := "ytbiglbdanppjpaadoor", sum := "89b3daca54126bb6efb58a6049a5f8e3075b5b6f0d5753e08c2d0ca7e86fbcdf", func := "zoneinfo/zoneinfolaw18.IndicatorsRoundTrip", spec := "indicatorsRoundTrip", named := ["zoneinfo/indicators.flags"], apart := false, laid := [("zoneinfo/indicators.flags", laid_zoneinfo_indicators_flags)] }
def IndicatorsRoundTripSaid : Prop := indicatorsRoundTripRow.holds Tryd.pinned (OpenSpec.ofChange indicatorsRoundTripSpec)

/-- ITS FALSE NEIGHBOUR: 'it returns false'. Refute it at one input. -/
def indicatorsRoundTripWrong : ChangeSpec := { name := "indicatorsRoundTrip", fn := fun _ => fun
  | [d1, d2, d3] => { results := [.lit (.bool false)], args := [d1, d2, d3] }
  | _ => none }
def IndicatorsRoundTripWrongFalsely : Prop := indicatorsRoundTripRow.holds Tryd.pinned (OpenSpec.ofChange indicatorsRoundTripWrong)

/-- 'zoneinfolaw18.IndicatorsConsistency': WHATEVER THE INPUT: true; the input reads as it did. -/
def indicatorsConsistencySpec : ChangeSpec := { name := "indicatorsConsistency", fn := fun _ => fun
  | [d1, d2, d3] => { results := [.lit (.bool true)], args := [d1, d2, d3] }
  | _ => none }
def indicatorsConsistencyRow : OpenClaim := { program := "ytbiglbdanppjpaadoor", sum := "89b3daca54126bb6efb58a6049a5f8e3075b5b6f0d5753e08c2d0ca7e86fbcdf", func := "zoneinfo/zoneinfolaw18.IndicatorsConsistency", spec := "indicatorsConsistency", named := ["zoneinfo/indicators.flags"], apart := false, laid := [("zoneinfo/indicators.flags", laid_zoneinfo_indicators_flags)] }
def IndicatorsConsistencySaid : Prop := indicatorsConsistencyRow.holds Tryd.pinned (OpenSpec.ofChange indicatorsConsistencySpec)

/-- ITS FALSE NEIGHBOUR: 'it returns false'. Refute it at one input. -/
def indicatorsConsistencyWrong : ChangeSpec := { name := "indicatorsConsistency", fn := fun _ => fun
  | [d1, d2, d3] => { results := [.lit (.bool false)], args := [d1, d2, d3] }
  | _ => none }
def IndicatorsConsistencyWrongFalsely : Prop := indicatorsConsistencyRow.holds Tryd.pinned (OpenSpec.ofChange indicatorsConsistencyWrong)

/-- 'zoneinfolaw18.IndicatorsConcatenate': WHATEVER THE INPUT: true; the input reads as it did. -/
def indicatorsConcatenateSpec : ChangeSpec := { name := "indicatorsConcatenate", fn := fun _ => fun
  | [d1, d2] => { results := [.lit (.bool true)], args := [d1, d2] }
  | _ => none }
def indicatorsConcatenateRow : OpenClaim := { program := "ytbiglbdanppjpaadoor", sum := "89b3daca54126bb6efb58a6049a5f8e3075b5b6f0d5753e08c2d0ca7e86fbcdf", func := "zoneinfo/zoneinfolaw18.IndicatorsConcatenate", spec := "indicatorsConcatenate", named := ["zoneinfo/indicators.flags"], apart := false, laid := [("zoneinfo/indicators.flags", laid_zoneinfo_indicators_flags)] }
def IndicatorsConcatenateSaid : Prop := indicatorsConcatenateRow.holds Tryd.pinned (OpenSpec.ofChange indicatorsConcatenateSpec)

/-- ITS FALSE NEIGHBOUR: 'it returns false'. Refute it at one input. -/
def indicatorsConcatenateWrong : ChangeSpec := { name := "indicatorsConcatenate", fn := fun _ => fun
  | [d1, d2] => { results := [.lit (.bool false)], args := [d1, d2] }
  | _ => none }
def IndicatorsConcatenateWrongFalsely : Prop := indicatorsConcatenateRow.holds Tryd.pinned (OpenSpec.ofChange indicatorsConcatenateWrong)

/- THE SECOND FORM. 'bulk': how many values and letters a reading holds, each counted each time it is reached (what is shared counts as often as it is met; a slice's spare places count too). A statement '..UptoSaid' is the law's where the arguments, and the package variables that the reading takes, are together of bulk at most 1048576: NARROWER than '..Said'. Prove '..Said' where nothing that the law and all that it calls make is longer than what came in: it says more and counts as full. Else prove '..UptoSaid'. A law counts once. -/
mutual
def uptoBulk {H : Type} : DataW H → Nat
  | .lit (.string bytes) => bytes.length + 1
  | .lit _ => 1
  | .nil => 1
  | .ptr d => uptoBulk d + 1
  | .slice elems spare => uptoBulkAll elems + uptoBulkAll spare + 1
  | .agg parts => uptoBulkAll parts + 1
  | .iface _ d => uptoBulk d + 1
  | .map entries => uptoBulkEntries entries + 1
  | .held _ => 1
def uptoBulkAll {H : Type} : List (DataW H) → Nat
  | [] => 0
  | d :: r => uptoBulk d + uptoBulkAll r
def uptoBulkEntries {H : Type} : List (Lit × DataW H) → Nat
  | [] => 0
  | x :: r => uptoBulkEntry x + uptoBulkEntries r
def uptoBulkEntry {H : Type} : Lit × DataW H → Nat
  | (.string bytes, d) => bytes.length + uptoBulk d + 1
  | (_, d) => uptoBulk d + 1
 end
def uptoSmall : (H : Type) → List (DataW H) → Bool := fun _ ds => decide (uptoBulkAll ds ≤ 1048576)
def OpenSpec.upto (s : _root_.Go.ChangeSpec) : _root_.Go.OpenSpec := { _root_.Go.OpenSpec.ofChange s with cond := some uptoSmall }

/-- 'zoneinfolaw18.IndicatorsMatchReference', WHERE WHAT IT READS IS OF BULK AT MOST 1048576: true; the input reads as it did. -/
def indicatorsMatchReferenceUptoRow : OpenClaim := { program := "ytbiglbdanppjpaadoor", sum := "89b3daca54126bb6efb58a6049a5f8e3075b5b6f0d5753e08c2d0ca7e86fbcdf", func := "zoneinfo/zoneinfolaw18.IndicatorsMatchReference", spec := "indicatorsMatchReference", named := ["zoneinfo/indicators.flags"], apart := false, laid := [("zoneinfo/indicators.flags", laid_zoneinfo_indicators_flags)], narrowed := true }
def IndicatorsMatchReferenceUptoSaid : Prop := indicatorsMatchReferenceUptoRow.holds Tryd.pinned (OpenSpec.upto indicatorsMatchReferenceSpec)

/-- 'zoneinfolaw18.IndicatorsRoundTrip', WHERE WHAT IT READS IS OF BULK AT MOST 1048576: true; the input reads as it did. -/
def indicatorsRoundTripUptoRow : OpenClaim := { program := "ytbiglbdanppjpaadoor", sum := "89b3daca54126bb6efb58a6049a5f8e3075b5b6f0d5753e08c2d0ca7e86fbcdf", func := "zoneinfo/zoneinfolaw18.IndicatorsRoundTrip", spec := "indicatorsRoundTrip", named := ["zoneinfo/indicators.flags"], apart := false, laid := [("zoneinfo/indicators.flags", laid_zoneinfo_indicators_flags)], narrowed := true }
def IndicatorsRoundTripUptoSaid : Prop := indicatorsRoundTripUptoRow.holds Tryd.pinned (OpenSpec.upto indicatorsRoundTripSpec)

/-- 'zoneinfolaw18.IndicatorsConsistency', WHERE WHAT IT READS IS OF BULK AT MOST 1048576: true; the input reads as it did. -/
def indicatorsConsistencyUptoRow : OpenClaim := { program := "ytbiglbdanppjpaadoor", sum := "89b3daca54126bb6efb58a6049a5f8e3075b5b6f0d5753e08c2d0ca7e86fbcdf", func := "zoneinfo/zoneinfolaw18.IndicatorsConsistency", spec := "indicatorsConsistency", named := ["zoneinfo/indicators.flags"], apart := false, laid := [("zoneinfo/indicators.flags", laid_zoneinfo_indicators_flags)], narrowed := true }
def IndicatorsConsistencyUptoSaid : Prop := indicatorsConsistencyUptoRow.holds Tryd.pinned (OpenSpec.upto indicatorsConsistencySpec)

/-- 'zoneinfolaw18.IndicatorsConcatenate', WHERE WHAT IT READS IS OF BULK AT MOST 1048576: true; the input reads as it did. -/
def indicatorsConcatenateUptoRow : OpenClaim := { program := "ytbiglbdanppjpaadoor", sum := "89b3daca54126bb6efb58a6049a5f8e3075b5b6f0d5753e08c2d0ca7e86fbcdf", func := "zoneinfo/zoneinfolaw18.IndicatorsConcatenate", spec := "indicatorsConcatenate", named := ["zoneinfo/indicators.flags"], apart := false, laid := [("zoneinfo/indicators.flags", laid_zoneinfo_indicators_flags)], narrowed := true }
def IndicatorsConcatenateUptoSaid : Prop := indicatorsConcatenateUptoRow.holds Tryd.pinned (OpenSpec.upto indicatorsConcatenateSpec)

end Rows
end Go.Proofs.YtbiglbdanppjpaaDoor
