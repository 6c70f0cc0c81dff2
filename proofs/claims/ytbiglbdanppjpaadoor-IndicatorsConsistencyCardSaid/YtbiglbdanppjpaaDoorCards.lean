/-
  DERIVED. GIVEN WITH THE SEED: THE CARDS: each row of YtbiglbdanppjpaaDoorRows.lean that lists a variable, with what it lists TIED to the program's text (the seventh form; the later family's looks); each row that meets fmt, with fmt's text TOLD by the authors' own Lean function (tested against real Go, not proved from fmt's source: count such statements apart). THE CARD IS WHAT COUNTS. Prove the row's statement (the work); the ties are given (YtbiglbdanppjpaaDoorTie.lean); close each card by the builder's one call (the guide's Derived/Test/ToyasCard.lean, 'card_holds'). Laid BY PROGRAM, IN A SANDBOX (cutbox-door.mjs). By AI agents, Wed Nov 11 2026. No macro, syntax, notation, axiom, sorry.
-/
import Derived.Test.YtbiglbdanppjpaaDoorRows
import GoSem.ClaimSeven
namespace Go.Proofs.YtbiglbdanppjpaaDoor
namespace Rows

/-- THE TIED CARD OF 'zoneinfolaw18.IndicatorsMatchReference'. -/
def indicatorsMatchReferenceCard : Claim7 := { stood := { row := indicatorsMatchReferenceRow, standIns := [], harness := (true, "89483116253180aad7df7562d812e942d83f6a4219d3cc2a015eea9bc0112351"), looks := false }, kinds := [], alts := [], laidByText := true, laidKinds := [.data], laidTests := true, laidLooks := .later }
def IndicatorsMatchReferenceCardSaid : Prop := Claim7.holds Tryd.pinned (.plain (OpenSpec.ofChange indicatorsMatchReferenceSpec)) indicatorsMatchReferenceCard

/-- THE TIED CARD OF 'zoneinfolaw18.IndicatorsRoundTrip'. -/
def indicatorsRoundTripCard : Claim7 := { stood := { row := indicatorsRoundTripRow, standIns := [], harness := (true, "89483116253180aad7df7562d812e942d83f6a4219d3cc2a015eea9bc0112351"), looks := false }, kinds := [], alts := [], laidByText := true, laidKinds := [.data], laidTests := true, laidLooks := .later }
def IndicatorsRoundTripCardSaid : Prop := Claim7.holds Tryd.pinned (.plain (OpenSpec.ofChange indicatorsRoundTripSpec)) indicatorsRoundTripCard

/-- THE TIED CARD OF 'zoneinfolaw18.IndicatorsConsistency'. -/
def indicatorsConsistencyCard : Claim7 := { stood := { row := indicatorsConsistencyRow, standIns := [], harness := (true, "89483116253180aad7df7562d812e942d83f6a4219d3cc2a015eea9bc0112351"), looks := false }, kinds := [], alts := [], laidByText := true, laidKinds := [.data], laidTests := true, laidLooks := .later }
def IndicatorsConsistencyCardSaid : Prop := Claim7.holds Tryd.pinned (.plain (OpenSpec.ofChange indicatorsConsistencySpec)) indicatorsConsistencyCard

/-- THE TIED CARD OF 'zoneinfolaw18.IndicatorsConcatenate'. -/
def indicatorsConcatenateCard : Claim7 := { stood := { row := indicatorsConcatenateRow, standIns := [], harness := (true, "89483116253180aad7df7562d812e942d83f6a4219d3cc2a015eea9bc0112351"), looks := false }, kinds := [], alts := [], laidByText := true, laidKinds := [.data], laidTests := true, laidLooks := .later }
def IndicatorsConcatenateCardSaid : Prop := Claim7.holds Tryd.pinned (.plain (OpenSpec.ofChange indicatorsConcatenateSpec)) indicatorsConcatenateCard

/-- THE SECOND FORM's CARD OF 'zoneinfolaw18.IndicatorsMatchReference'. -/
def indicatorsMatchReferenceUptoCard : Claim7 := { stood := { row := indicatorsMatchReferenceUptoRow, standIns := [], harness := (true, "89483116253180aad7df7562d812e942d83f6a4219d3cc2a015eea9bc0112351"), looks := false }, kinds := [], alts := [], laidByText := true, laidKinds := [.data], laidTests := true, laidLooks := .later }
def IndicatorsMatchReferenceUptoCardSaid : Prop := Claim7.holds Tryd.pinned (.plain (OpenSpec.upto indicatorsMatchReferenceSpec)) indicatorsMatchReferenceUptoCard

/-- THE SECOND FORM's CARD OF 'zoneinfolaw18.IndicatorsRoundTrip'. -/
def indicatorsRoundTripUptoCard : Claim7 := { stood := { row := indicatorsRoundTripUptoRow, standIns := [], harness := (true, "89483116253180aad7df7562d812e942d83f6a4219d3cc2a015eea9bc0112351"), looks := false }, kinds := [], alts := [], laidByText := true, laidKinds := [.data], laidTests := true, laidLooks := .later }
def IndicatorsRoundTripUptoCardSaid : Prop := Claim7.holds Tryd.pinned (.plain (OpenSpec.upto indicatorsRoundTripSpec)) indicatorsRoundTripUptoCard

/-- THE SECOND FORM's CARD OF 'zoneinfolaw18.IndicatorsConsistency'. -/
def indicatorsConsistencyUptoCard : Claim7 := { stood := { row := indicatorsConsistencyUptoRow, standIns := [], harness := (true, "89483116253180aad7df7562d812e942d83f6a4219d3cc2a015eea9bc0112351"), looks := false }, kinds := [], alts := [], laidByText := true, laidKinds := [.data], laidTests := true, laidLooks := .later }
def IndicatorsConsistencyUptoCardSaid : Prop := Claim7.holds Tryd.pinned (.plain (OpenSpec.upto indicatorsConsistencySpec)) indicatorsConsistencyUptoCard

/-- THE SECOND FORM's CARD OF 'zoneinfolaw18.IndicatorsConcatenate'. -/
def indicatorsConcatenateUptoCard : Claim7 := { stood := { row := indicatorsConcatenateUptoRow, standIns := [], harness := (true, "89483116253180aad7df7562d812e942d83f6a4219d3cc2a015eea9bc0112351"), looks := false }, kinds := [], alts := [], laidByText := true, laidKinds := [.data], laidTests := true, laidLooks := .later }
def IndicatorsConcatenateUptoCardSaid : Prop := Claim7.holds Tryd.pinned (.plain (OpenSpec.upto indicatorsConcatenateSpec)) indicatorsConcatenateUptoCard
end Rows
end Go.Proofs.YtbiglbdanppjpaaDoor
