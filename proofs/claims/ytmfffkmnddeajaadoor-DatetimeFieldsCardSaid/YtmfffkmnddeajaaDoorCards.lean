/-
  DERIVED. GIVEN WITH THE SEED: THE CARDS: each row of YtmfffkmnddeajaaDoorRows.lean that lists a variable, with what it lists TIED to the program's text (the seventh form; the later family's looks); each row that meets fmt, with fmt's text TOLD by the authors' own Lean function (tested against real Go, not proved from fmt's source: count such statements apart). THE CARD IS WHAT COUNTS. Prove the row's statement (the work); the ties are given (YtmfffkmnddeajaaDoorTie.lean); close each card by the builder's one call (the guide's Derived/Test/ToyasCard.lean, 'card_holds'). Laid BY PROGRAM, IN A SANDBOX (cutbox-door.mjs). By AI agents, Wed Nov 11 2026. No macro, syntax, notation, axiom, sorry.
-/
import Derived.Test.YtmfffkmnddeajaaDoorRows
import GoSem.ClaimSeven
namespace Go.Proofs.YtmfffkmnddeajaaDoor
namespace Rows

/-- THE TIED CARD OF 'zoneinfolaw05.DatetimeMatchesReference'. -/
def datetimeMatchesReferenceCard : Claim7 := { stood := { row := datetimeMatchesReferenceRow, standIns := [], harness := (true, "7adbf486ade87143451a27a08ee9e3fa7f718ef9b1cfd9f71095ec9039938c0f"), looks := false }, kinds := [], alts := [], laidByText := true, laidKinds := [.data], laidTests := true, laidLooks := .later }
def DatetimeMatchesReferenceCardSaid : Prop := Claim7.holds Tryd.pinned (.plain (OpenSpec.ofChange datetimeMatchesReferenceSpec)) datetimeMatchesReferenceCard

/-- THE TIED CARD OF 'zoneinfolaw05.DatetimeRoundTrip'. -/
def datetimeRoundTripCard : Claim7 := { stood := { row := datetimeRoundTripRow, standIns := [], harness := (true, "7adbf486ade87143451a27a08ee9e3fa7f718ef9b1cfd9f71095ec9039938c0f"), looks := false }, kinds := [], alts := [], laidByText := true, laidKinds := [.data], laidTests := true, laidLooks := .later }
def DatetimeRoundTripCardSaid : Prop := Claim7.holds Tryd.pinned (.plain (OpenSpec.ofChange datetimeRoundTripSpec)) datetimeRoundTripCard

/-- THE TIED CARD OF 'zoneinfolaw05.DatetimeOrder'. -/
def datetimeOrderCard : Claim7 := { stood := { row := datetimeOrderRow, standIns := [], harness := (true, "7adbf486ade87143451a27a08ee9e3fa7f718ef9b1cfd9f71095ec9039938c0f"), looks := false }, kinds := [], alts := [], laidByText := true, laidKinds := [.data], laidTests := true, laidLooks := .later }
def DatetimeOrderCardSaid : Prop := Claim7.holds Tryd.pinned (.plain (OpenSpec.ofChange datetimeOrderSpec)) datetimeOrderCard

/-- THE TIED CARD OF 'zoneinfolaw05.DatetimeYears'. -/
def datetimeYearsCard : Claim7 := { stood := { row := datetimeYearsRow, standIns := [], harness := (true, "7adbf486ade87143451a27a08ee9e3fa7f718ef9b1cfd9f71095ec9039938c0f"), looks := false }, kinds := [], alts := [], laidByText := true, laidKinds := [.data], laidTests := true, laidLooks := .later }
def DatetimeYearsCardSaid : Prop := Claim7.holds Tryd.pinned (.plain (OpenSpec.ofChange datetimeYearsSpec)) datetimeYearsCard

/-- THE TIED CARD OF 'zoneinfolaw05.DatetimeFields'. -/
def datetimeFieldsCard : Claim7 := { stood := { row := datetimeFieldsRow, standIns := [], harness := (true, "7adbf486ade87143451a27a08ee9e3fa7f718ef9b1cfd9f71095ec9039938c0f"), looks := false }, kinds := [], alts := [], laidByText := true, laidKinds := [.data], laidTests := true, laidLooks := .later }
def DatetimeFieldsCardSaid : Prop := Claim7.holds Tryd.pinned (.plain (OpenSpec.ofChange datetimeFieldsSpec)) datetimeFieldsCard

/-- THE SECOND FORM's CARD OF 'zoneinfolaw05.DatetimeMatchesReference'. -/
def datetimeMatchesReferenceUptoCard : Claim7 := { stood := { row := datetimeMatchesReferenceUptoRow, standIns := [], harness := (true, "7adbf486ade87143451a27a08ee9e3fa7f718ef9b1cfd9f71095ec9039938c0f"), looks := false }, kinds := [], alts := [], laidByText := true, laidKinds := [.data], laidTests := true, laidLooks := .later }
def DatetimeMatchesReferenceUptoCardSaid : Prop := Claim7.holds Tryd.pinned (.plain (OpenSpec.upto datetimeMatchesReferenceSpec)) datetimeMatchesReferenceUptoCard

/-- THE SECOND FORM's CARD OF 'zoneinfolaw05.DatetimeRoundTrip'. -/
def datetimeRoundTripUptoCard : Claim7 := { stood := { row := datetimeRoundTripUptoRow, standIns := [], harness := (true, "7adbf486ade87143451a27a08ee9e3fa7f718ef9b1cfd9f71095ec9039938c0f"), looks := false }, kinds := [], alts := [], laidByText := true, laidKinds := [.data], laidTests := true, laidLooks := .later }
def DatetimeRoundTripUptoCardSaid : Prop := Claim7.holds Tryd.pinned (.plain (OpenSpec.upto datetimeRoundTripSpec)) datetimeRoundTripUptoCard

/-- THE SECOND FORM's CARD OF 'zoneinfolaw05.DatetimeOrder'. -/
def datetimeOrderUptoCard : Claim7 := { stood := { row := datetimeOrderUptoRow, standIns := [], harness := (true, "7adbf486ade87143451a27a08ee9e3fa7f718ef9b1cfd9f71095ec9039938c0f"), looks := false }, kinds := [], alts := [], laidByText := true, laidKinds := [.data], laidTests := true, laidLooks := .later }
def DatetimeOrderUptoCardSaid : Prop := Claim7.holds Tryd.pinned (.plain (OpenSpec.upto datetimeOrderSpec)) datetimeOrderUptoCard

/-- THE SECOND FORM's CARD OF 'zoneinfolaw05.DatetimeYears'. -/
def datetimeYearsUptoCard : Claim7 := { stood := { row := datetimeYearsUptoRow, standIns := [], harness := (true, "7adbf486ade87143451a27a08ee9e3fa7f718ef9b1cfd9f71095ec9039938c0f"), looks := false }, kinds := [], alts := [], laidByText := true, laidKinds := [.data], laidTests := true, laidLooks := .later }
def DatetimeYearsUptoCardSaid : Prop := Claim7.holds Tryd.pinned (.plain (OpenSpec.upto datetimeYearsSpec)) datetimeYearsUptoCard

/-- THE SECOND FORM's CARD OF 'zoneinfolaw05.DatetimeFields'. -/
def datetimeFieldsUptoCard : Claim7 := { stood := { row := datetimeFieldsUptoRow, standIns := [], harness := (true, "7adbf486ade87143451a27a08ee9e3fa7f718ef9b1cfd9f71095ec9039938c0f"), looks := false }, kinds := [], alts := [], laidByText := true, laidKinds := [.data], laidTests := true, laidLooks := .later }
def DatetimeFieldsUptoCardSaid : Prop := Claim7.holds Tryd.pinned (.plain (OpenSpec.upto datetimeFieldsSpec)) datetimeFieldsUptoCard
end Rows
end Go.Proofs.YtmfffkmnddeajaaDoor
