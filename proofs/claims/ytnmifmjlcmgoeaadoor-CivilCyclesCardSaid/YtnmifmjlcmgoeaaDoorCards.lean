/-
  DERIVED. GIVEN WITH THE SEED: THE CARDS: each row of YtnmifmjlcmgoeaaDoorRows.lean that lists a variable, with what it lists TIED to the program's text (the seventh form; the later family's looks); each row that meets fmt, with fmt's text TOLD by the authors' own Lean function (tested against real Go, not proved from fmt's source: count such statements apart). THE CARD IS WHAT COUNTS. Prove the row's statement (the work); the ties are given (YtnmifmjlcmgoeaaDoorTie.lean); close each card by the builder's one call (the guide's Derived/Test/ToyasCard.lean, 'card_holds'). Laid BY PROGRAM, IN A SANDBOX (cutbox-door.mjs). By AI agents, Wed Nov 11 2026. No macro, syntax, notation, axiom, sorry.
-/
import Derived.Test.YtnmifmjlcmgoeaaDoorRows
import GoSem.ClaimSeven
namespace Go.Proofs.YtnmifmjlcmgoeaaDoor
namespace Rows

/-- THE TIED CARD OF 'zoneinfolaw04.CivilMatchesReference'. -/
def civilMatchesReferenceCard : Claim7 := { stood := { row := civilMatchesReferenceRow, standIns := [], harness := (true, "2f8ad9aab9bd6f39d8b054828583789dd63c990a2d94398c28618588a1b58cbd"), looks := false }, kinds := [], alts := [], laidByText := true, laidKinds := [.data], laidTests := true, laidLooks := .later }
def CivilMatchesReferenceCardSaid : Prop := Claim7.holds Tryd.pinned (.plain (OpenSpec.ofChange civilMatchesReferenceSpec)) civilMatchesReferenceCard

/-- THE TIED CARD OF 'zoneinfolaw04.CivilRoundTrip'. -/
def civilRoundTripCard : Claim7 := { stood := { row := civilRoundTripRow, standIns := [], harness := (true, "2f8ad9aab9bd6f39d8b054828583789dd63c990a2d94398c28618588a1b58cbd"), looks := false }, kinds := [], alts := [], laidByText := true, laidKinds := [.data], laidTests := true, laidLooks := .later }
def CivilRoundTripCardSaid : Prop := Claim7.holds Tryd.pinned (.plain (OpenSpec.ofChange civilRoundTripSpec)) civilRoundTripCard

/-- THE TIED CARD OF 'zoneinfolaw04.CivilNextDay'. -/
def civilNextDayCard : Claim7 := { stood := { row := civilNextDayRow, standIns := [], harness := (true, "2f8ad9aab9bd6f39d8b054828583789dd63c990a2d94398c28618588a1b58cbd"), looks := false }, kinds := [], alts := [], laidByText := true, laidKinds := [.data], laidTests := true, laidLooks := .later }
def CivilNextDayCardSaid : Prop := Claim7.holds Tryd.pinned (.plain (OpenSpec.ofChange civilNextDaySpec)) civilNextDayCard

/-- THE TIED CARD OF 'zoneinfolaw04.CivilCycles'. -/
def civilCyclesCard : Claim7 := { stood := { row := civilCyclesRow, standIns := [], harness := (true, "2f8ad9aab9bd6f39d8b054828583789dd63c990a2d94398c28618588a1b58cbd"), looks := false }, kinds := [], alts := [], laidByText := true, laidKinds := [.data], laidTests := true, laidLooks := .later }
def CivilCyclesCardSaid : Prop := Claim7.holds Tryd.pinned (.plain (OpenSpec.ofChange civilCyclesSpec)) civilCyclesCard

/-- THE TIED CARD OF 'zoneinfolaw04.CivilMonotone'. -/
def civilMonotoneCard : Claim7 := { stood := { row := civilMonotoneRow, standIns := [], harness := (true, "2f8ad9aab9bd6f39d8b054828583789dd63c990a2d94398c28618588a1b58cbd"), looks := false }, kinds := [], alts := [], laidByText := true, laidKinds := [.data], laidTests := true, laidLooks := .later }
def CivilMonotoneCardSaid : Prop := Claim7.holds Tryd.pinned (.plain (OpenSpec.ofChange civilMonotoneSpec)) civilMonotoneCard

/-- THE SECOND FORM's CARD OF 'zoneinfolaw04.CivilMatchesReference'. -/
def civilMatchesReferenceUptoCard : Claim7 := { stood := { row := civilMatchesReferenceUptoRow, standIns := [], harness := (true, "2f8ad9aab9bd6f39d8b054828583789dd63c990a2d94398c28618588a1b58cbd"), looks := false }, kinds := [], alts := [], laidByText := true, laidKinds := [.data], laidTests := true, laidLooks := .later }
def CivilMatchesReferenceUptoCardSaid : Prop := Claim7.holds Tryd.pinned (.plain (OpenSpec.upto civilMatchesReferenceSpec)) civilMatchesReferenceUptoCard

/-- THE SECOND FORM's CARD OF 'zoneinfolaw04.CivilRoundTrip'. -/
def civilRoundTripUptoCard : Claim7 := { stood := { row := civilRoundTripUptoRow, standIns := [], harness := (true, "2f8ad9aab9bd6f39d8b054828583789dd63c990a2d94398c28618588a1b58cbd"), looks := false }, kinds := [], alts := [], laidByText := true, laidKinds := [.data], laidTests := true, laidLooks := .later }
def CivilRoundTripUptoCardSaid : Prop := Claim7.holds Tryd.pinned (.plain (OpenSpec.upto civilRoundTripSpec)) civilRoundTripUptoCard

/-- THE SECOND FORM's CARD OF 'zoneinfolaw04.CivilNextDay'. -/
def civilNextDayUptoCard : Claim7 := { stood := { row := civilNextDayUptoRow, standIns := [], harness := (true, "2f8ad9aab9bd6f39d8b054828583789dd63c990a2d94398c28618588a1b58cbd"), looks := false }, kinds := [], alts := [], laidByText := true, laidKinds := [.data], laidTests := true, laidLooks := .later }
def CivilNextDayUptoCardSaid : Prop := Claim7.holds Tryd.pinned (.plain (OpenSpec.upto civilNextDaySpec)) civilNextDayUptoCard

/-- THE SECOND FORM's CARD OF 'zoneinfolaw04.CivilCycles'. -/
def civilCyclesUptoCard : Claim7 := { stood := { row := civilCyclesUptoRow, standIns := [], harness := (true, "2f8ad9aab9bd6f39d8b054828583789dd63c990a2d94398c28618588a1b58cbd"), looks := false }, kinds := [], alts := [], laidByText := true, laidKinds := [.data], laidTests := true, laidLooks := .later }
def CivilCyclesUptoCardSaid : Prop := Claim7.holds Tryd.pinned (.plain (OpenSpec.upto civilCyclesSpec)) civilCyclesUptoCard

/-- THE SECOND FORM's CARD OF 'zoneinfolaw04.CivilMonotone'. -/
def civilMonotoneUptoCard : Claim7 := { stood := { row := civilMonotoneUptoRow, standIns := [], harness := (true, "2f8ad9aab9bd6f39d8b054828583789dd63c990a2d94398c28618588a1b58cbd"), looks := false }, kinds := [], alts := [], laidByText := true, laidKinds := [.data], laidTests := true, laidLooks := .later }
def CivilMonotoneUptoCardSaid : Prop := Claim7.holds Tryd.pinned (.plain (OpenSpec.upto civilMonotoneSpec)) civilMonotoneUptoCard
end Rows
end Go.Proofs.YtnmifmjlcmgoeaaDoor
