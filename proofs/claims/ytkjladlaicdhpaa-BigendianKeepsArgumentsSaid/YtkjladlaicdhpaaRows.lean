/-
  No cell of these rows narrows 'for every input' (looked for: loops, veiled, ifaces, maps, wideKeys, modest, calm, conditions, laid).
  DERIVED. THE GIVEN ROWS OF THIS SEAT. 5 by the template 'for every input the law returns true; each argument reads behind the call as it read before'; 0 by the template 'total and deterministic' (their statements: YtkjladlaicdhpaaTotals.lean).
  GIVEN WITH THE SEED: the statements are not yours to turn. If you find one false, say at which input.
  Laid BY PROGRAM, IN A SANDBOX (cutbox-rows.mjs): the forced cells as the released guide's own fill.sh prints them over the translation 2dbae931f996a8a0… (all of the seat's roots in one cut). By AI agents, Wed Nov 11 2026. No macro, syntax, notation, axiom, sorry.
-/
import Derived.Test.YtkjladlaicdhpaaChecked
import GoSem.Claim
import GoSem.ClaimJoined
import GoSem.ClaimMapViews
import Derived.JoinedTies
import Derived.KernelRfl
namespace Go.Proofs.Ytkjladlaicdhpaa
/- THE CELL 'sum', in the pinned program and in every row, IS THE sha256 OF THE DUMP (.gsa) THAT YtkjladlaicdhpaaProg.lean LOADS. Nothing in Lean hashes anything: it is a label: what it is worth is what the hold of that sum in a sandbox is worth. -/
noncomputable def Try.pinned : Pinned := { name := "ytkjladlaicdhpaa", sum := "2dbae931f996a8a08deddb41ad32e4aea5a348302a165636981bcbf9de891986", checked := Try.checked }
namespace Rows
def none {H : Type} : Left H := { results := [], args := [] }

/-- 'zoneinfolaw01.BigendianMatchesReference': WHATEVER THE INPUT: true; the input reads as it did. -/
def bigendianMatchesReferenceSpec : ChangeSpec := { name := "bigendianMatchesReference", fn := fun _ => fun
  | [d1, d2, d3, d4, d5] => { results := [.lit (.bool true)], args := [d1, d2, d3, d4, d5] }
  | _ => none }
def bigendianMatchesReferenceRow : OpenClaim := { program := "ytkjladlaicdhpaa", sum := "2dbae931f996a8a08deddb41ad32e4aea5a348302a165636981bcbf9de891986", func := "zoneinfo/zoneinfolaw01.BigendianMatchesReference", spec := "bigendianMatchesReference", apart := false }
def BigendianMatchesReferenceSaid : Prop := bigendianMatchesReferenceRow.holds Try.pinned (OpenSpec.ofChange bigendianMatchesReferenceSpec)

/-- ITS FALSE NEIGHBOUR: 'it returns false'. Refute it at one input. -/
def bigendianMatchesReferenceWrong : ChangeSpec := { name := "bigendianMatchesReference", fn := fun _ => fun
  | [d1, d2, d3, d4, d5] => { results := [.lit (.bool false)], args := [d1, d2, d3, d4, d5] }
  | _ => none }
def BigendianMatchesReferenceWrongFalsely : Prop := bigendianMatchesReferenceRow.holds Try.pinned (OpenSpec.ofChange bigendianMatchesReferenceWrong)

/-- 'zoneinfolaw01.BigendianRoundTrip': WHATEVER THE INPUT: true; the input reads as it did. -/
def bigendianRoundTripSpec : ChangeSpec := { name := "bigendianRoundTrip", fn := fun _ => fun
  | [d1, d2, d3, d4] => { results := [.lit (.bool true)], args := [d1, d2, d3, d4] }
  | _ => none }
def bigendianRoundTripRow : OpenClaim := { program := "ytkjladlaicdhpaa", sum := "2dbae931f996a8a08deddb41ad32e4aea5a348302a165636981bcbf9de891986", func := "zoneinfo/zoneinfolaw01.BigendianRoundTrip", spec := "bigendianRoundTrip", apart := false }
def BigendianRoundTripSaid : Prop := bigendianRoundTripRow.holds Try.pinned (OpenSpec.ofChange bigendianRoundTripSpec)

/-- ITS FALSE NEIGHBOUR: 'it returns false'. Refute it at one input. -/
def bigendianRoundTripWrong : ChangeSpec := { name := "bigendianRoundTrip", fn := fun _ => fun
  | [d1, d2, d3, d4] => { results := [.lit (.bool false)], args := [d1, d2, d3, d4] }
  | _ => none }
def BigendianRoundTripWrongFalsely : Prop := bigendianRoundTripRow.holds Try.pinned (OpenSpec.ofChange bigendianRoundTripWrong)

/-- 'zoneinfolaw01.BigendianBytes': WHATEVER THE INPUT: true; the input reads as it did. -/
def bigendianBytesSpec : ChangeSpec := { name := "bigendianBytes", fn := fun _ => fun
  | [d1, d2, d3] => { results := [.lit (.bool true)], args := [d1, d2, d3] }
  | _ => none }
def bigendianBytesRow : OpenClaim := { program := "ytkjladlaicdhpaa", sum := "2dbae931f996a8a08deddb41ad32e4aea5a348302a165636981bcbf9de891986", func := "zoneinfo/zoneinfolaw01.BigendianBytes", spec := "bigendianBytes", apart := false }
def BigendianBytesSaid : Prop := bigendianBytesRow.holds Try.pinned (OpenSpec.ofChange bigendianBytesSpec)

/-- ITS FALSE NEIGHBOUR: 'it returns false'. Refute it at one input. -/
def bigendianBytesWrong : ChangeSpec := { name := "bigendianBytes", fn := fun _ => fun
  | [d1, d2, d3] => { results := [.lit (.bool false)], args := [d1, d2, d3] }
  | _ => none }
def BigendianBytesWrongFalsely : Prop := bigendianBytesRow.holds Try.pinned (OpenSpec.ofChange bigendianBytesWrong)

/-- 'zoneinfolaw01.BigendianKeepsArguments': WHATEVER THE INPUT: true; the input reads as it did. -/
def bigendianKeepsArgumentsSpec : ChangeSpec := { name := "bigendianKeepsArguments", fn := fun _ => fun
  | [d1, d2, d3] => { results := [.lit (.bool true)], args := [d1, d2, d3] }
  | _ => none }
def bigendianKeepsArgumentsRow : OpenClaim := { program := "ytkjladlaicdhpaa", sum := "2dbae931f996a8a08deddb41ad32e4aea5a348302a165636981bcbf9de891986", func := "zoneinfo/zoneinfolaw01.BigendianKeepsArguments", spec := "bigendianKeepsArguments", apart := false }
def BigendianKeepsArgumentsSaid : Prop := bigendianKeepsArgumentsRow.holds Try.pinned (OpenSpec.ofChange bigendianKeepsArgumentsSpec)

/-- ITS FALSE NEIGHBOUR: 'it returns false'. Refute it at one input. -/
def bigendianKeepsArgumentsWrong : ChangeSpec := { name := "bigendianKeepsArguments", fn := fun _ => fun
  | [d1, d2, d3] => { results := [.lit (.bool false)], args := [d1, d2, d3] }
  | _ => none }
def BigendianKeepsArgumentsWrongFalsely : Prop := bigendianKeepsArgumentsRow.holds Try.pinned (OpenSpec.ofChange bigendianKeepsArgumentsWrong)

/-- 'zoneinfolaw01.BigendianOrder': WHATEVER THE INPUT: true; the input reads as it did. -/
def bigendianOrderSpec : ChangeSpec := { name := "bigendianOrder", fn := fun _ => fun
  | [d1, d2, d3, d4] => { results := [.lit (.bool true)], args := [d1, d2, d3, d4] }
  | _ => none }
def bigendianOrderRow : OpenClaim := { program := "ytkjladlaicdhpaa", sum := "2dbae931f996a8a08deddb41ad32e4aea5a348302a165636981bcbf9de891986", func := "zoneinfo/zoneinfolaw01.BigendianOrder", spec := "bigendianOrder", apart := false }
def BigendianOrderSaid : Prop := bigendianOrderRow.holds Try.pinned (OpenSpec.ofChange bigendianOrderSpec)

/-- ITS FALSE NEIGHBOUR: 'it returns false'. Refute it at one input. -/
def bigendianOrderWrong : ChangeSpec := { name := "bigendianOrder", fn := fun _ => fun
  | [d1, d2, d3, d4] => { results := [.lit (.bool false)], args := [d1, d2, d3, d4] }
  | _ => none }
def BigendianOrderWrongFalsely : Prop := bigendianOrderRow.holds Try.pinned (OpenSpec.ofChange bigendianOrderWrong)

/- THE SECOND FORM. 'bulk': how many values and letters a reading holds, each counted each time it is reached (what is shared counts as often as it is met; a slice's spare places count too). A statement '..UptoSaid' is the law's where the arguments, and the package variables that the reading takes, are together of bulk at most 1048576: NARROWER than '..Said'. Prove '..Said' where nothing that the law and all that it calls make is longer than what came in: it says more and counts as full. Else prove '..UptoSaid'. A law counts once. -/
mutual
def uptoBulk {H : Type} : DataW H → Nat
  | .lit (.string bytes) => bytes.length + 1
  | .lit _ => 1
  | .nil => 1
  | .ptr d => uptoBulk d + 1
  | .slice elems spare => uptoBulkAll elems + uptoBulkAll spare + 1
  | .agg parts => uptoBulkAll parts + 1
  | .iface _ d => uptoBulk d + 1
  | .map entries => uptoBulkEntries entries + 1
  | .held _ => 1
def uptoBulkAll {H : Type} : List (DataW H) → Nat
  | [] => 0
  | d :: r => uptoBulk d + uptoBulkAll r
def uptoBulkEntries {H : Type} : List (Lit × DataW H) → Nat
  | [] => 0
  | x :: r => uptoBulkEntry x + uptoBulkEntries r
def uptoBulkEntry {H : Type} : Lit × DataW H → Nat
  | (.string bytes, d) => bytes.length + uptoBulk d + 1
  | (_, d) => uptoBulk d + 1
 end
def uptoSmall : (H : Type) → List (DataW H) → Bool := fun _ ds => decide (uptoBulkAll ds ≤ 1048576)
def OpenSpec.upto (s : _root_.Go.ChangeSpec) : _root_.Go.OpenSpec := { _root_.Go.OpenSpec.ofChange s with cond := some uptoSmall }

/-- 'zoneinfolaw01.BigendianMatchesReference', WHERE WHAT IT READS IS OF BULK AT MOST 1048576: true; the input reads as it did. -/
def bigendianMatchesReferenceUptoRow : OpenClaim := { program := "ytkjladlaicdhpaa", sum := "2dbae931f996a8a08deddb41ad32e4aea5a348302a165636981bcbf9de891986", func := "zoneinfo/zoneinfolaw01.BigendianMatchesReference", spec := "bigendianMatchesReference", apart := false, narrowed := true }
def BigendianMatchesReferenceUptoSaid : Prop := bigendianMatchesReferenceUptoRow.holds Try.pinned (OpenSpec.upto bigendianMatchesReferenceSpec)

/-- 'zoneinfolaw01.BigendianRoundTrip', WHERE WHAT IT READS IS OF BULK AT MOST 1048576: true; the input reads as it did. -/
def bigendianRoundTripUptoRow : OpenClaim := { program := "ytkjladlaicdhpaa", sum := "2dbae931f996a8a08deddb41ad32e4aea5a348302a165636981bcbf9de891986", func := "zoneinfo/zoneinfolaw01.BigendianRoundTrip", spec := "bigendianRoundTrip", apart := false, narrowed := true }
def BigendianRoundTripUptoSaid : Prop := bigendianRoundTripUptoRow.holds Try.pinned (OpenSpec.upto bigendianRoundTripSpec)

/-- 'zoneinfolaw01.BigendianBytes', WHERE WHAT IT READS IS OF BULK AT MOST 1048576: true; the input reads as it did. -/
def bigendianBytesUptoRow : OpenClaim := { program := "ytkjladlaicdhpaa", sum := "2dbae931f996a8a08deddb41ad32e4aea5a348302a165636981bcbf9de891986", func := "zoneinfo/zoneinfolaw01.BigendianBytes", spec := "bigendianBytes", apart := false, narrowed := true }
def BigendianBytesUptoSaid : Prop := bigendianBytesUptoRow.holds Try.pinned (OpenSpec.upto bigendianBytesSpec)

/-- 'zoneinfolaw01.BigendianKeepsArguments', WHERE WHAT IT READS IS OF BULK AT MOST 1048576: true; the input reads as it did. -/
def bigendianKeepsArgumentsUptoRow : OpenClaim := { program := "ytkjladlaicdhpaa", sum := "2dbae931f996a8a08deddb41ad32e4aea5a348302a165636981bcbf9de891986", func := "zoneinfo/zoneinfolaw01.BigendianKeepsArguments", spec := "bigendianKeepsArguments", apart := false, narrowed := true }
def BigendianKeepsArgumentsUptoSaid : Prop := bigendianKeepsArgumentsUptoRow.holds Try.pinned (OpenSpec.upto bigendianKeepsArgumentsSpec)

/-- 'zoneinfolaw01.BigendianOrder', WHERE WHAT IT READS IS OF BULK AT MOST 1048576: true; the input reads as it did. -/
def bigendianOrderUptoRow : OpenClaim := { program := "ytkjladlaicdhpaa", sum := "2dbae931f996a8a08deddb41ad32e4aea5a348302a165636981bcbf9de891986", func := "zoneinfo/zoneinfolaw01.BigendianOrder", spec := "bigendianOrder", apart := false, narrowed := true }
def BigendianOrderUptoSaid : Prop := bigendianOrderUptoRow.holds Try.pinned (OpenSpec.upto bigendianOrderSpec)

end Rows
end Go.Proofs.Ytkjladlaicdhpaa
