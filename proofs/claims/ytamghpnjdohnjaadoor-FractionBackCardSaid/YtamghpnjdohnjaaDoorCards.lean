/-
  DERIVED. GIVEN WITH THE SEED: THE CARDS: each row of YtamghpnjdohnjaaDoorRows.lean that lists a variable, with what it lists TIED to the program's text (the seventh form; the later family's looks); each row that meets fmt, with fmt's text TOLD by the authors' own Lean function (tested against real Go, not proved from fmt's source: count such statements apart). THE CARD IS WHAT COUNTS. Prove the row's statement (the work); the ties are given (YtamghpnjdohnjaaDoorTie.lean); close each card by the builder's one call (the guide's Derived/Test/ToyasCard.lean, 'card_holds'). Laid BY PROGRAM, IN A SANDBOX (cutbox-door.mjs). By AI agents, Wed Nov 11 2026. No macro, syntax, notation, axiom, sorry.
-/
import Derived.Test.YtamghpnjdohnjaaDoorRows
import GoSem.ClaimSeven
namespace Go.Proofs.YtamghpnjdohnjaaDoor
namespace Rows

/-- THE TIED CARD OF 'testgatelaw02.FractionMakes'. -/
def fractionMakesCard : Claim7 := { stood := { row := fractionMakesRow, standIns := [], harness := (true, "b28262ee12a80a403a2cee9550ec8ddc08a6577d7b7ea35d7e9a15f43d678779"), looks := false }, kinds := [], alts := [], laidByText := true, laidKinds := [.data, .pinned], laidTests := true, laidLooks := .later }
def FractionMakesCardSaid : Prop := Claim7.holds Tryd.pinned (.plain (OpenSpec.ofChange fractionMakesSpec)) fractionMakesCard

/-- THE TIED CARD OF 'testgatelaw02.FractionComputes'. -/
def fractionComputesCard : Claim7 := { stood := { row := fractionComputesRow, standIns := [], harness := (true, "b28262ee12a80a403a2cee9550ec8ddc08a6577d7b7ea35d7e9a15f43d678779"), looks := false }, kinds := [], alts := [], laidByText := true, laidKinds := [.data, .pinned], laidTests := true, laidLooks := .later }
def FractionComputesCardSaid : Prop := Claim7.holds Tryd.pinned (.plain (OpenSpec.ofChange fractionComputesSpec)) fractionComputesCard

/-- THE TIED CARD OF 'testgatelaw02.FractionLaws'. -/
def fractionLawsCard : Claim7 := { stood := { row := fractionLawsRow, standIns := [], harness := (true, "b28262ee12a80a403a2cee9550ec8ddc08a6577d7b7ea35d7e9a15f43d678779"), looks := false }, kinds := [], alts := [], laidByText := true, laidKinds := [.data, .pinned], laidTests := true, laidLooks := .later }
def FractionLawsCardSaid : Prop := Claim7.holds Tryd.pinned (.plain (OpenSpec.ofChange fractionLawsSpec)) fractionLawsCard

/-- THE TIED CARD OF 'testgatelaw02.FractionBig'. -/
def fractionBigCard : Claim7 := { stood := { row := fractionBigRow, standIns := [], harness := (true, "b28262ee12a80a403a2cee9550ec8ddc08a6577d7b7ea35d7e9a15f43d678779"), looks := false }, kinds := [], alts := [], laidByText := true, laidKinds := [.data, .pinned], laidTests := true, laidLooks := .later }
def FractionBigCardSaid : Prop := Claim7.holds Tryd.pinned (.plain (OpenSpec.ofChange fractionBigSpec)) fractionBigCard

/-- THE TIED CARD OF 'testgatelaw02.FractionPowers'. -/
def fractionPowersCard : Claim7 := { stood := { row := fractionPowersRow, standIns := [], harness := (true, "b28262ee12a80a403a2cee9550ec8ddc08a6577d7b7ea35d7e9a15f43d678779"), looks := false }, kinds := [], alts := [], laidByText := true, laidKinds := [.data, .pinned], laidTests := true, laidLooks := .later }
def FractionPowersCardSaid : Prop := Claim7.holds Tryd.pinned (.plain (OpenSpec.ofChange fractionPowersSpec)) fractionPowersCard

/-- THE TIED CARD OF 'testgatelaw02.FractionTexts'. -/
def fractionTextsCard : Claim7 := { stood := { row := fractionTextsRow, standIns := [], harness := (true, "b28262ee12a80a403a2cee9550ec8ddc08a6577d7b7ea35d7e9a15f43d678779"), looks := false }, kinds := [], alts := [], laidByText := true, laidKinds := [.data, .pinned], laidTests := true, laidLooks := .later }
def FractionTextsCardSaid : Prop := Claim7.holds Tryd.pinned (.plain (OpenSpec.ofChange fractionTextsSpec)) fractionTextsCard

/-- THE TIED CARD OF 'testgatelaw02.FractionBack'. -/
def fractionBackCard : Claim7 := { stood := { row := fractionBackRow, standIns := [], harness := (true, "b28262ee12a80a403a2cee9550ec8ddc08a6577d7b7ea35d7e9a15f43d678779"), looks := false }, kinds := [], alts := [], laidByText := true, laidKinds := [.data, .pinned], laidTests := true, laidLooks := .later }
def FractionBackCardSaid : Prop := Claim7.holds Tryd.pinned (.plain (OpenSpec.ofChange fractionBackSpec)) fractionBackCard

/-- THE SECOND FORM's CARD OF 'testgatelaw02.FractionMakes'. -/
def fractionMakesUptoCard : Claim7 := { stood := { row := fractionMakesUptoRow, standIns := [], harness := (true, "b28262ee12a80a403a2cee9550ec8ddc08a6577d7b7ea35d7e9a15f43d678779"), looks := false }, kinds := [], alts := [], laidByText := true, laidKinds := [.data, .pinned], laidTests := true, laidLooks := .later }
def FractionMakesUptoCardSaid : Prop := Claim7.holds Tryd.pinned (.plain (OpenSpec.upto fractionMakesSpec)) fractionMakesUptoCard

/-- THE SECOND FORM's CARD OF 'testgatelaw02.FractionComputes'. -/
def fractionComputesUptoCard : Claim7 := { stood := { row := fractionComputesUptoRow, standIns := [], harness := (true, "b28262ee12a80a403a2cee9550ec8ddc08a6577d7b7ea35d7e9a15f43d678779"), looks := false }, kinds := [], alts := [], laidByText := true, laidKinds := [.data, .pinned], laidTests := true, laidLooks := .later }
def FractionComputesUptoCardSaid : Prop := Claim7.holds Tryd.pinned (.plain (OpenSpec.upto fractionComputesSpec)) fractionComputesUptoCard

/-- THE SECOND FORM's CARD OF 'testgatelaw02.FractionLaws'. -/
def fractionLawsUptoCard : Claim7 := { stood := { row := fractionLawsUptoRow, standIns := [], harness := (true, "b28262ee12a80a403a2cee9550ec8ddc08a6577d7b7ea35d7e9a15f43d678779"), looks := false }, kinds := [], alts := [], laidByText := true, laidKinds := [.data, .pinned], laidTests := true, laidLooks := .later }
def FractionLawsUptoCardSaid : Prop := Claim7.holds Tryd.pinned (.plain (OpenSpec.upto fractionLawsSpec)) fractionLawsUptoCard

/-- THE SECOND FORM's CARD OF 'testgatelaw02.FractionBig'. -/
def fractionBigUptoCard : Claim7 := { stood := { row := fractionBigUptoRow, standIns := [], harness := (true, "b28262ee12a80a403a2cee9550ec8ddc08a6577d7b7ea35d7e9a15f43d678779"), looks := false }, kinds := [], alts := [], laidByText := true, laidKinds := [.data, .pinned], laidTests := true, laidLooks := .later }
def FractionBigUptoCardSaid : Prop := Claim7.holds Tryd.pinned (.plain (OpenSpec.upto fractionBigSpec)) fractionBigUptoCard

/-- THE SECOND FORM's CARD OF 'testgatelaw02.FractionPowers'. -/
def fractionPowersUptoCard : Claim7 := { stood := { row := fractionPowersUptoRow, standIns := [], harness := (true, "b28262ee12a80a403a2cee9550ec8ddc08a6577d7b7ea35d7e9a15f43d678779"), looks := false }, kinds := [], alts := [], laidByText := true, laidKinds := [.data, .pinned], laidTests := true, laidLooks := .later }
def FractionPowersUptoCardSaid : Prop := Claim7.holds Tryd.pinned (.plain (OpenSpec.upto fractionPowersSpec)) fractionPowersUptoCard

/-- THE SECOND FORM's CARD OF 'testgatelaw02.FractionTexts'. -/
def fractionTextsUptoCard : Claim7 := { stood := { row := fractionTextsUptoRow, standIns := [], harness := (true, "b28262ee12a80a403a2cee9550ec8ddc08a6577d7b7ea35d7e9a15f43d678779"), looks := false }, kinds := [], alts := [], laidByText := true, laidKinds := [.data, .pinned], laidTests := true, laidLooks := .later }
def FractionTextsUptoCardSaid : Prop := Claim7.holds Tryd.pinned (.plain (OpenSpec.upto fractionTextsSpec)) fractionTextsUptoCard

/-- THE SECOND FORM's CARD OF 'testgatelaw02.FractionBack'. -/
def fractionBackUptoCard : Claim7 := { stood := { row := fractionBackUptoRow, standIns := [], harness := (true, "b28262ee12a80a403a2cee9550ec8ddc08a6577d7b7ea35d7e9a15f43d678779"), looks := false }, kinds := [], alts := [], laidByText := true, laidKinds := [.data, .pinned], laidTests := true, laidLooks := .later }
def FractionBackUptoCardSaid : Prop := Claim7.holds Tryd.pinned (.plain (OpenSpec.upto fractionBackSpec)) fractionBackUptoCard
end Rows
end Go.Proofs.YtamghpnjdohnjaaDoor
