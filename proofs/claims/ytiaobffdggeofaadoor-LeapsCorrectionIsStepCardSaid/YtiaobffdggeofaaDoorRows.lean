/-
  NARROWER THAN 'FOR EVERY INPUT', by the rows' own cells (each row's printed sentence says how): LeapsMatchReference: laid · LeapsRoundTrip: laid · LeapsValidity: laid · LeapsCorrectionIsStep: laid.
  DERIVED. THE GIVEN ROWS OF THIS SEAT. 4 by the template 'for every input the law returns true; each argument reads behind the call as it read before'; 0 by the template 'total and deterministic' (their statements: YtiaobffdggeofaaDoorTotals.lean).
  GIVEN WITH THE SEED: the statements are not yours to turn. If you find one false, say at which input.
  Laid BY PROGRAM, IN A SANDBOX (cutbox-rows.mjs): the forced cells as the released guide's own fill.sh prints them over the translation 2f1a52ebc1e0e3f9… (all of the seat's roots in one cut). By AI agents, Wed Nov 11 2026. No macro, syntax, notation, axiom, sorry.
-/
import Derived.Test.YtiaobffdggeofaaDoorChecked
import GoSem.Claim
import GoSem.ClaimJoined
import GoSem.ClaimMapViews
import Derived.JoinedTies
import Derived.KernelRfl
namespace Go.Proofs.YtiaobffdggeofaaDoor
/- THE CELL 'sum', in the pinned program and in every row, IS THE sha256 OF THE DUMP (.gsa) THAT YtiaobffdggeofaaDoorProg.lean LOADS. Nothing in Lean hashes anything: it is a label: what it is worth is what the hold of that sum in a sandbox is worth. -/
noncomputable def Tryd.pinned : Pinned := { name := "ytiaobffdggeofaadoor", sum := "2f1a52ebc1e0e3f9dd3f3654e7b05de2bbdd32cde6bf1f5a0c7b45d6af337460", checked := Tryd.checked }
namespace Rows
def none {H : Type} : Left H := { results := [], args := [] }

/- WHAT THE LISTED PACKAGE-LEVEL VARIABLES READ AS WHEN THE CALL BEGINS. Each datum BY PROGRAM (the guide's laid-datum.mjs) off the statement by which the dump's own 'gosem.cut.vars' lays the variable. In a bare row this is a premise. The card (YtiaobffdggeofaaDoorCards.lean) ties it to the program's text. -/
def laid_zoneinfo_leaps_rules {H : Type} : DataW H := .iface "func table" (.slice [.agg [.lit (.string [116, 105, 109, 101]), .iface "func" (.lit (.string [122, 111, 110, 101, 105, 110, 102, 111, 47, 108, 101, 97, 112, 115, 46, 114, 117, 108, 101, 115, 36, 49]))], .agg [.lit (.string [102, 105, 114, 115, 116, 32, 99, 111, 114, 114, 101, 99, 116, 105, 111, 110]), .iface "func" (.lit (.string [122, 111, 110, 101, 105, 110, 102, 111, 47, 108, 101, 97, 112, 115, 46, 114, 117, 108, 101, 115, 36, 50]))], .agg [.lit (.string [115, 116, 101, 112]), .iface "func" (.lit (.string [122, 111, 110, 101, 105, 110, 102, 111, 47, 108, 101, 97, 112, 115, 46, 114, 117, 108, 101, 115, 36, 51]))]] [])

/-- 'zoneinfolaw17.LeapsMatchReference': WHATEVER THE INPUT: true; the input reads as it did. -/
def leapsMatchReferenceSpec : ChangeSpec := { name := "leapsMatchReference", fn := fun _ => fun
  | [d1, d2, d3, d4, d5] => { results := [.lit (.bool true)], args := [d1, d2, d3, d4, d5] }
  | _ => none }
def leapsMatchReferenceRow : OpenClaim := { program := "ytiaobffdggeofaadoor", sum := "2f1a52ebc1e0e3f9dd3f3654e7b05de2bbdd32cde6bf1f5a0c7b45d6af337460", func := "zoneinfo/zoneinfolaw17.LeapsMatchReference", spec := "leapsMatchReference", unfollowed := true, recurses := true, named := ["zoneinfo/leaps.rules"], apart := false, laid := [("zoneinfo/leaps.rules", laid_zoneinfo_leaps_rules)] }
def LeapsMatchReferenceSaid : Prop := leapsMatchReferenceRow.holds Tryd.pinned (OpenSpec.ofChange leapsMatchReferenceSpec)

/-- ITS FALSE NEIGHBOUR: 'it returns false'. Refute it at one input. -/
def leapsMatchReferenceWrong : ChangeSpec := { name := "leapsMatchReference", fn := fun _ => fun
  | [d1, d2, d3, d4, d5] => { results := [.lit (.bool false)], args := [d1, d2, d3, d4, d5] }
  | _ => none }
def LeapsMatchReferenceWrongFalsely : Prop := leapsMatchReferenceRow.holds Tryd.pinned (OpenSpec.ofChange leapsMatchReferenceWrong)

/-- 'zoneinfolaw17.LeapsRoundTrip': WHATEVER THE INPUT: true; the input reads as it did. -/
def leapsRoundTripSpec : ChangeSpec := { name := "leapsRoundTrip", fn := fun _ => fun
  | [d1, d2, d3] => { results := [.lit (.bool true)], args := [d1, d2, d3] }
  | _ => none }
def leapsRoundTripRow : OpenClaim := { program := "ytiaobffdggeofaadoor", sum := "2f1a52ebc1e0e3f9dd3f3654e7b05de2bbdd32cde6bf1f5a0c7b45d6af337460", func := "zoneinfo/zoneinfolaw17.LeapsRoundTrip", spec := "leapsRoundTrip", unfollowed := true, recurses := true, named := ["zoneinfo/leaps.rules"], apart := false, laid := [("zoneinfo/leaps.rules", laid_zoneinfo_leaps_rules)] }
def LeapsRoundTripSaid : Prop := leapsRoundTripRow.holds Tryd.pinned (OpenSpec.ofChange leapsRoundTripSpec)

/-- ITS FALSE NEIGHBOUR: 'it returns false'. Refute it at one input. -/
def leapsRoundTripWrong : ChangeSpec := { name := "leapsRoundTrip", fn := fun _ => fun
  | [d1, d2, d3] => { results := [.lit (.bool false)], args := [d1, d2, d3] }
  | _ => none }
def LeapsRoundTripWrongFalsely : Prop := leapsRoundTripRow.holds Tryd.pinned (OpenSpec.ofChange leapsRoundTripWrong)

/-- 'zoneinfolaw17.LeapsValidity': WHATEVER THE INPUT: true; the input reads as it did. -/
def leapsValiditySpec : ChangeSpec := { name := "leapsValidity", fn := fun _ => fun
  | [d1, d2] => { results := [.lit (.bool true)], args := [d1, d2] }
  | _ => none }
def leapsValidityRow : OpenClaim := { program := "ytiaobffdggeofaadoor", sum := "2f1a52ebc1e0e3f9dd3f3654e7b05de2bbdd32cde6bf1f5a0c7b45d6af337460", func := "zoneinfo/zoneinfolaw17.LeapsValidity", spec := "leapsValidity", unfollowed := true, recurses := true, named := ["zoneinfo/leaps.rules"], apart := false, laid := [("zoneinfo/leaps.rules", laid_zoneinfo_leaps_rules)] }
def LeapsValiditySaid : Prop := leapsValidityRow.holds Tryd.pinned (OpenSpec.ofChange leapsValiditySpec)

/-- ITS FALSE NEIGHBOUR: 'it returns false'. Refute it at one input. -/
def leapsValidityWrong : ChangeSpec := { name := "leapsValidity", fn := fun _ => fun
  | [d1, d2] => { results := [.lit (.bool false)], args := [d1, d2] }
  | _ => none }
def LeapsValidityWrongFalsely : Prop := leapsValidityRow.holds Tryd.pinned (OpenSpec.ofChange leapsValidityWrong)

/-- 'zoneinfolaw17.LeapsCorrectionIsStep': WHATEVER THE INPUT: true; the input reads as it did. -/
def leapsCorrectionIsStepSpec : ChangeSpec := { name := "leapsCorrectionIsStep", fn := fun _ => fun
  | [d1, d2] => { results := [.lit (.bool true)], args := [d1, d2] }
  | _ => none }
def leapsCorrectionIsStepRow : OpenClaim := { program := "ytiaobffdggeofaadoor", sum := "2f1a52ebc1e0e3f9dd3f3654e7b05de2bbdd32cde6bf1f5a0c7b45d6af337460", func := "zoneinfo/zoneinfolaw17.LeapsCorrectionIsStep", spec := "leapsCorrectionIsStep", unfollowed := true, recurses := true, named := ["zoneinfo/leaps.rules"], apart := false, laid := [("zoneinfo/leaps.rules", laid_zoneinfo_leaps_rules)] }
def LeapsCorrectionIsStepSaid : Prop := leapsCorrectionIsStepRow.holds Tryd.pinned (OpenSpec.ofChange leapsCorrectionIsStepSpec)

/-- ITS FALSE NEIGHBOUR: 'it returns false'. Refute it at one input. -/
def leapsCorrectionIsStepWrong : ChangeSpec := { name := "leapsCorrectionIsStep", fn := fun _ => fun
  | [d1, d2] => { results := [.lit (.bool false)], args := [d1, d2] }
  | _ => none }
def LeapsCorrectionIsStepWrongFalsely : Prop := leapsCorrectionIsStepRow.holds Tryd.pinned (OpenSpec.ofChange leapsCorrectionIsStepWrong)

/- THE SECOND FORM. 'bulk': how many values and letters a reading holds, each counted each time it is reached (what is shared counts as often as it is met; a slice's spare places count too). A statement '..UptoSaid' is the law's where the arguments, and the package variables that the reading takes, are together of bulk at most 1048576: NARROWER than '..Said'. Prove '..Said' where nothing that the law and all that it calls make is longer than what came in: it says more and counts as full. Else prove '..UptoSaid'. A law counts once. -/
mutual
def uptoBulk {H : Type} : DataW H → Nat
  | .lit (.string bytes) => bytes.length + 1
  | .lit _ => 1
  | .nil => 1
  | .ptr d => uptoBulk d + 1
  | .slice elems spare => uptoBulkAll elems + uptoBulkAll spare + 1
  | .agg parts => uptoBulkAll parts + 1
  | .iface _ d => uptoBulk d + 1
  | .map entries => uptoBulkEntries entries + 1
  | .held _ => 1
def uptoBulkAll {H : Type} : List (DataW H) → Nat
  | [] => 0
  | d :: r => uptoBulk d + uptoBulkAll r
def uptoBulkEntries {H : Type} : List (Lit × DataW H) → Nat
  | [] => 0
  | x :: r => uptoBulkEntry x + uptoBulkEntries r
def uptoBulkEntry {H : Type} : Lit × DataW H → Nat
  | (.string bytes, d) => bytes.length + uptoBulk d + 1
  | (_, d) => uptoBulk d + 1
 end
def uptoSmall : (H : Type) → List (DataW H) → Bool := fun _ ds => decide (uptoBulkAll ds ≤ 1048576)
def OpenSpec.upto (s : _root_.Go.ChangeSpec) : _root_.Go.OpenSpec := { _root_.Go.OpenSpec.ofChange s with cond := some uptoSmall }

/-- 'zoneinfolaw17.LeapsMatchReference', WHERE WHAT IT READS IS OF BULK AT MOST 1048576: true; the input reads as it did. -/
def leapsMatchReferenceUptoRow : OpenClaim := { program := "ytiaobffdggeofaadoor", sum := "2f1a52ebc1e0e3f9dd3f3654e7b05de2bbdd32cde6bf1f5a0c7b45d6af337460", func := "zoneinfo/zoneinfolaw17.LeapsMatchReference", spec := "leapsMatchReference", unfollowed := true, recurses := true, named := ["zoneinfo/leaps.rules"], apart := false, laid := [("zoneinfo/leaps.rules", laid_zoneinfo_leaps_rules)], narrowed := true }
def LeapsMatchReferenceUptoSaid : Prop := leapsMatchReferenceUptoRow.holds Tryd.pinned (OpenSpec.upto leapsMatchReferenceSpec)

/-- 'zoneinfolaw17.LeapsRoundTrip', WHERE WHAT IT READS IS OF BULK AT MOST 1048576: true; the input reads as it did. -/
def leapsRoundTripUptoRow : OpenClaim := { program := "ytiaobffdggeofaadoor", sum := "2f1a52ebc1e0e3f9dd3f3654e7b05de2bbdd32cde6bf1f5a0c7b45d6af337460", func := "zoneinfo/zoneinfolaw17.LeapsRoundTrip", spec := "leapsRoundTrip", unfollowed := true, recurses := true, named := ["zoneinfo/leaps.rules"], apart := false, laid := [("zoneinfo/leaps.rules", laid_zoneinfo_leaps_rules)], narrowed := true }
def LeapsRoundTripUptoSaid : Prop := leapsRoundTripUptoRow.holds Tryd.pinned (OpenSpec.upto leapsRoundTripSpec)

/-- 'zoneinfolaw17.LeapsValidity', WHERE WHAT IT READS IS OF BULK AT MOST 1048576: true; the input reads as it did. -/
def leapsValidityUptoRow : OpenClaim := { program := "ytiaobffdggeofaadoor", sum := "2f1a52ebc1e0e3f9dd3f3654e7b05de2bbdd32cde6bf1f5a0c7b45d6af337460", func := "zoneinfo/zoneinfolaw17.LeapsValidity", spec := "leapsValidity", unfollowed := true, recurses := true, named := ["zoneinfo/leaps.rules"], apart := false, laid := [("zoneinfo/leaps.rules", laid_zoneinfo_leaps_rules)], narrowed := true }
def LeapsValidityUptoSaid : Prop := leapsValidityUptoRow.holds Tryd.pinned (OpenSpec.upto leapsValiditySpec)

/-- 'zoneinfolaw17.LeapsCorrectionIsStep', WHERE WHAT IT READS IS OF BULK AT MOST 1048576: true; the input reads as it did. -/
def leapsCorrectionIsStepUptoRow : OpenClaim := { program := "ytiaobffdggeofaadoor", sum := "2f1a52ebc1e0e3f9dd3f3654e7b05de2bbdd32cde6bf1f5a0c7b45d6af337460", func := "zoneinfo/zoneinfolaw17.LeapsCorrectionIsStep", spec := "leapsCorrectionIsStep", unfollowed := true, recurses := true, named := ["zoneinfo/leaps.rules"], apart := false, laid := [("zoneinfo/leaps.rules", laid_zoneinfo_leaps_rules)], narrowed := true }
def LeapsCorrectionIsStepUptoSaid : Prop := leapsCorrectionIsStepUptoRow.holds Tryd.pinned (OpenSpec.upto leapsCorrectionIsStepSpec)

end Rows
end Go.Proofs.YtiaobffdggeofaaDoor
