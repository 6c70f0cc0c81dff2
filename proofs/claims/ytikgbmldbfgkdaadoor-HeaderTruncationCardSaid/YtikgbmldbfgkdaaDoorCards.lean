/-
  DERIVED. GIVEN WITH THE SEED: THE CARDS: each row of YtikgbmldbfgkdaaDoorRows.lean that lists a variable, with what it lists TIED to the program's text (the seventh form; the later family's looks); each row that meets fmt, with fmt's text TOLD by the authors' own Lean function (tested against real Go, not proved from fmt's source: count such statements apart). THE CARD IS WHAT COUNTS. Prove the row's statement (the work); the ties are given (YtikgbmldbfgkdaaDoorTie.lean); close each card by the builder's one call (the guide's Derived/Test/ToyasCard.lean, 'card_holds'). Laid BY PROGRAM, IN A SANDBOX (cutbox-door.mjs). By AI agents, Wed Nov 11 2026. No macro, syntax, notation, axiom, sorry.
-/
import Derived.Test.YtikgbmldbfgkdaaDoorRows
import GoSem.ClaimSeven
namespace Go.Proofs.YtikgbmldbfgkdaaDoor
namespace Rows

/-- THE TIED CARD OF 'zoneinfolaw13.HeaderRoundTrip'. -/
def headerRoundTripCard : Claim7 := { stood := { row := headerRoundTripRow, standIns := [], harness := (true, "42a239182d9b0226bd612f2c1ff49912a44f3ef8dbb8888ecb5c114cef9a036e"), looks := false }, kinds := [], alts := [], laidByText := true, laidKinds := [.data], laidTests := true, laidLooks := .later }
def HeaderRoundTripCardSaid : Prop := Claim7.holds Tryd.pinned (.plain (OpenSpec.ofChange headerRoundTripSpec)) headerRoundTripCard

/-- THE TIED CARD OF 'zoneinfolaw13.HeaderIsCanonical'. -/
def headerIsCanonicalCard : Claim7 := { stood := { row := headerIsCanonicalRow, standIns := [], harness := (true, "42a239182d9b0226bd612f2c1ff49912a44f3ef8dbb8888ecb5c114cef9a036e"), looks := false }, kinds := [], alts := [], laidByText := true, laidKinds := [.data], laidTests := true, laidLooks := .later }
def HeaderIsCanonicalCardSaid : Prop := Claim7.holds Tryd.pinned (.plain (OpenSpec.ofChange headerIsCanonicalSpec)) headerIsCanonicalCard

/-- THE TIED CARD OF 'zoneinfolaw13.HeaderTruncation'. -/
def headerTruncationCard : Claim7 := { stood := { row := headerTruncationRow, standIns := [], harness := (true, "42a239182d9b0226bd612f2c1ff49912a44f3ef8dbb8888ecb5c114cef9a036e"), looks := false }, kinds := [], alts := [], laidByText := true, laidKinds := [.data], laidTests := true, laidLooks := .later }
def HeaderTruncationCardSaid : Prop := Claim7.holds Tryd.pinned (.plain (OpenSpec.ofChange headerTruncationSpec)) headerTruncationCard

/-- THE TIED CARD OF 'zoneinfolaw13.HeaderInjective'. -/
def headerInjectiveCard : Claim7 := { stood := { row := headerInjectiveRow, standIns := [], harness := (true, "42a239182d9b0226bd612f2c1ff49912a44f3ef8dbb8888ecb5c114cef9a036e"), looks := false }, kinds := [], alts := [], laidByText := true, laidKinds := [.data], laidTests := true, laidLooks := .later }
def HeaderInjectiveCardSaid : Prop := Claim7.holds Tryd.pinned (.plain (OpenSpec.ofChange headerInjectiveSpec)) headerInjectiveCard

/-- THE SECOND FORM's CARD OF 'zoneinfolaw13.HeaderRoundTrip'. -/
def headerRoundTripUptoCard : Claim7 := { stood := { row := headerRoundTripUptoRow, standIns := [], harness := (true, "42a239182d9b0226bd612f2c1ff49912a44f3ef8dbb8888ecb5c114cef9a036e"), looks := false }, kinds := [], alts := [], laidByText := true, laidKinds := [.data], laidTests := true, laidLooks := .later }
def HeaderRoundTripUptoCardSaid : Prop := Claim7.holds Tryd.pinned (.plain (OpenSpec.upto headerRoundTripSpec)) headerRoundTripUptoCard

/-- THE SECOND FORM's CARD OF 'zoneinfolaw13.HeaderIsCanonical'. -/
def headerIsCanonicalUptoCard : Claim7 := { stood := { row := headerIsCanonicalUptoRow, standIns := [], harness := (true, "42a239182d9b0226bd612f2c1ff49912a44f3ef8dbb8888ecb5c114cef9a036e"), looks := false }, kinds := [], alts := [], laidByText := true, laidKinds := [.data], laidTests := true, laidLooks := .later }
def HeaderIsCanonicalUptoCardSaid : Prop := Claim7.holds Tryd.pinned (.plain (OpenSpec.upto headerIsCanonicalSpec)) headerIsCanonicalUptoCard

/-- THE SECOND FORM's CARD OF 'zoneinfolaw13.HeaderTruncation'. -/
def headerTruncationUptoCard : Claim7 := { stood := { row := headerTruncationUptoRow, standIns := [], harness := (true, "42a239182d9b0226bd612f2c1ff49912a44f3ef8dbb8888ecb5c114cef9a036e"), looks := false }, kinds := [], alts := [], laidByText := true, laidKinds := [.data], laidTests := true, laidLooks := .later }
def HeaderTruncationUptoCardSaid : Prop := Claim7.holds Tryd.pinned (.plain (OpenSpec.upto headerTruncationSpec)) headerTruncationUptoCard

/-- THE SECOND FORM's CARD OF 'zoneinfolaw13.HeaderInjective'. -/
def headerInjectiveUptoCard : Claim7 := { stood := { row := headerInjectiveUptoRow, standIns := [], harness := (true, "42a239182d9b0226bd612f2c1ff49912a44f3ef8dbb8888ecb5c114cef9a036e"), looks := false }, kinds := [], alts := [], laidByText := true, laidKinds := [.data], laidTests := true, laidLooks := .later }
def HeaderInjectiveUptoCardSaid : Prop := Claim7.holds Tryd.pinned (.plain (OpenSpec.upto headerInjectiveSpec)) headerInjectiveUptoCard
end Rows
end Go.Proofs.YtikgbmldbfgkdaaDoor
