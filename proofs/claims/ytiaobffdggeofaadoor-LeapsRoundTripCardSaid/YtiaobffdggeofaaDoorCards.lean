/-
  DERIVED. GIVEN WITH THE SEED: THE CARDS: each row of YtiaobffdggeofaaDoorRows.lean that lists a variable, with what it lists TIED to the program's text (the seventh form; the later family's looks); each row that meets fmt, with fmt's text TOLD by the authors' own Lean function (tested against real Go, not proved from fmt's source: count such statements apart). THE CARD IS WHAT COUNTS. Prove the row's statement (the work); the ties are given (YtiaobffdggeofaaDoorTie.lean); close each card by the builder's one call (the guide's Derived/Test/ToyasCard.lean, 'card_holds'). Laid BY PROGRAM, IN A SANDBOX (cutbox-door.mjs). By AI agents, Wed Nov 11 2026. No macro, syntax, notation, axiom, sorry.
-/
import Derived.Test.YtiaobffdggeofaaDoorRows
import GoSem.ClaimSeven
namespace Go.Proofs.YtiaobffdggeofaaDoor
namespace Rows

/-- THE TIED CARD OF 'zoneinfolaw17.LeapsMatchReference'. -/
def leapsMatchReferenceCard : Claim7 := { stood := { row := leapsMatchReferenceRow, standIns := [], harness := (true, "a98eaa1afe3390e1eecca0375e6adabcea5060cead2c4075b5eeab928a7ce616"), looks := false }, kinds := [], alts := [], laidByText := true, laidKinds := [.funcs], laidTests := true, laidLooks := .later }
def LeapsMatchReferenceCardSaid : Prop := Claim7.holds Tryd.pinned (.plain (OpenSpec.ofChange leapsMatchReferenceSpec)) leapsMatchReferenceCard

/-- THE TIED CARD OF 'zoneinfolaw17.LeapsRoundTrip'. -/
def leapsRoundTripCard : Claim7 := { stood := { row := leapsRoundTripRow, standIns := [], harness := (true, "a98eaa1afe3390e1eecca0375e6adabcea5060cead2c4075b5eeab928a7ce616"), looks := false }, kinds := [], alts := [], laidByText := true, laidKinds := [.funcs], laidTests := true, laidLooks := .later }
def LeapsRoundTripCardSaid : Prop := Claim7.holds Tryd.pinned (.plain (OpenSpec.ofChange leapsRoundTripSpec)) leapsRoundTripCard

/-- THE TIED CARD OF 'zoneinfolaw17.LeapsValidity'. -/
def leapsValidityCard : Claim7 := { stood := { row := leapsValidityRow, standIns := [], harness := (true, "a98eaa1afe3390e1eecca0375e6adabcea5060cead2c4075b5eeab928a7ce616"), looks := false }, kinds := [], alts := [], laidByText := true, laidKinds := [.funcs], laidTests := true, laidLooks := .later }
def LeapsValidityCardSaid : Prop := Claim7.holds Tryd.pinned (.plain (OpenSpec.ofChange leapsValiditySpec)) leapsValidityCard

/-- THE TIED CARD OF 'zoneinfolaw17.LeapsCorrectionIsStep'. -/
def leapsCorrectionIsStepCard : Claim7 := { stood := { row := leapsCorrectionIsStepRow, standIns := [], harness := (true, "a98eaa1afe3390e1eecca0375e6adabcea5060cead2c4075b5eeab928a7ce616"), looks := false }, kinds := [], alts := [], laidByText := true, laidKinds := [.funcs], laidTests := true, laidLooks := .later }
def LeapsCorrectionIsStepCardSaid : Prop := Claim7.holds Tryd.pinned (.plain (OpenSpec.ofChange leapsCorrectionIsStepSpec)) leapsCorrectionIsStepCard

/-- THE SECOND FORM's CARD OF 'zoneinfolaw17.LeapsMatchReference'. -/
def leapsMatchReferenceUptoCard : Claim7 := { stood := { row := leapsMatchReferenceUptoRow, standIns := [], harness := (true, "a98eaa1afe3390e1eecca0375e6adabcea5060cead2c4075b5eeab928a7ce616"), looks := false }, kinds := [], alts := [], laidByText := true, laidKinds := [.funcs], laidTests := true, laidLooks := .later }
def LeapsMatchReferenceUptoCardSaid : Prop := Claim7.holds Tryd.pinned (.plain (OpenSpec.upto leapsMatchReferenceSpec)) leapsMatchReferenceUptoCard

/-- THE SECOND FORM's CARD OF 'zoneinfolaw17.LeapsRoundTrip'. -/
def leapsRoundTripUptoCard : Claim7 := { stood := { row := leapsRoundTripUptoRow, standIns := [], harness := (true, "a98eaa1afe3390e1eecca0375e6adabcea5060cead2c4075b5eeab928a7ce616"), looks := false }, kinds := [], alts := [], laidByText := true, laidKinds := [.funcs], laidTests := true, laidLooks := .later }
def LeapsRoundTripUptoCardSaid : Prop := Claim7.holds Tryd.pinned (.plain (OpenSpec.upto leapsRoundTripSpec)) leapsRoundTripUptoCard

/-- THE SECOND FORM's CARD OF 'zoneinfolaw17.LeapsValidity'. -/
def leapsValidityUptoCard : Claim7 := { stood := { row := leapsValidityUptoRow, standIns := [], harness := (true, "a98eaa1afe3390e1eecca0375e6adabcea5060cead2c4075b5eeab928a7ce616"), looks := false }, kinds := [], alts := [], laidByText := true, laidKinds := [.funcs], laidTests := true, laidLooks := .later }
def LeapsValidityUptoCardSaid : Prop := Claim7.holds Tryd.pinned (.plain (OpenSpec.upto leapsValiditySpec)) leapsValidityUptoCard

/-- THE SECOND FORM's CARD OF 'zoneinfolaw17.LeapsCorrectionIsStep'. -/
def leapsCorrectionIsStepUptoCard : Claim7 := { stood := { row := leapsCorrectionIsStepUptoRow, standIns := [], harness := (true, "a98eaa1afe3390e1eecca0375e6adabcea5060cead2c4075b5eeab928a7ce616"), looks := false }, kinds := [], alts := [], laidByText := true, laidKinds := [.funcs], laidTests := true, laidLooks := .later }
def LeapsCorrectionIsStepUptoCardSaid : Prop := Claim7.holds Tryd.pinned (.plain (OpenSpec.upto leapsCorrectionIsStepSpec)) leapsCorrectionIsStepUptoCard
end Rows
end Go.Proofs.YtiaobffdggeofaaDoor
