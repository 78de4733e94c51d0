/-
  DERIVED. GIVEN WITH THE SEED: THE CARDS: each row of YtlndhpljajlneaaDoorRows.lean that lists a variable, with what it lists TIED to the program's text (the seventh form; the later family's looks); each row that meets fmt, with fmt's text TOLD by the authors' own Lean function (tested against real Go, not proved from fmt's source: count such statements apart). THE CARD IS WHAT COUNTS. Prove the row's statement (the work); the ties are given (YtlndhpljajlneaaDoorTie.lean); close each card by the builder's one call (the guide's Derived/Test/ToyasCard.lean, 'card_holds'). Laid BY PROGRAM, IN A SANDBOX (cutbox-door.mjs). By AI agents, Wed Nov 11 2026. No macro, syntax, notation, axiom, sorry.
-/
import Derived.Test.YtlndhpljajlneaaDoorRows
import GoSem.ClaimSeven
namespace Go.Proofs.YtlndhpljajlneaaDoor
namespace Rows

/-- THE TIED CARD OF 'testgatelaw01.NaturalReads'. -/
def naturalReadsCard : Claim7 := { stood := { row := naturalReadsRow, standIns := [], harness := (true, "ddd832bb9c49137e178d957effc04f6798cef589f4791d9531a715da171d95da"), looks := false }, kinds := [], alts := [], laidByText := true, laidKinds := [.data, .pinned], laidTests := true, laidLooks := .later }
def NaturalReadsCardSaid : Prop := Claim7.holds Tryd.pinned (.plain (OpenSpec.ofChange naturalReadsSpec)) naturalReadsCard

/-- THE TIED CARD OF 'testgatelaw01.NaturalPowers'. -/
def naturalPowersCard : Claim7 := { stood := { row := naturalPowersRow, standIns := [], harness := (true, "ddd832bb9c49137e178d957effc04f6798cef589f4791d9531a715da171d95da"), looks := false }, kinds := [], alts := [], laidByText := true, laidKinds := [.data, .pinned], laidTests := true, laidLooks := .later }
def NaturalPowersCardSaid : Prop := Claim7.holds Tryd.pinned (.plain (OpenSpec.ofChange naturalPowersSpec)) naturalPowersCard

/-- THE TIED CARD OF 'testgatelaw01.NaturalTexts'. -/
def naturalTextsCard : Claim7 := { stood := { row := naturalTextsRow, standIns := [], harness := (true, "ddd832bb9c49137e178d957effc04f6798cef589f4791d9531a715da171d95da"), looks := false }, kinds := [], alts := [], laidByText := true, laidKinds := [.data, .pinned], laidTests := true, laidLooks := .later }
def NaturalTextsCardSaid : Prop := Claim7.holds Tryd.pinned (.plain (OpenSpec.ofChange naturalTextsSpec)) naturalTextsCard

/-- THE TIED CARD OF 'testgatelaw01.NaturalBack'. -/
def naturalBackCard : Claim7 := { stood := { row := naturalBackRow, standIns := [], harness := (true, "ddd832bb9c49137e178d957effc04f6798cef589f4791d9531a715da171d95da"), looks := false }, kinds := [], alts := [], laidByText := true, laidKinds := [.data, .pinned], laidTests := true, laidLooks := .later }
def NaturalBackCardSaid : Prop := Claim7.holds Tryd.pinned (.plain (OpenSpec.ofChange naturalBackSpec)) naturalBackCard

/-- THE TIED CARD OF 'testgatelaw01.NaturalComputes'. -/
def naturalComputesCard : Claim7 := { stood := { row := naturalComputesRow, standIns := [], harness := (true, "ddd832bb9c49137e178d957effc04f6798cef589f4791d9531a715da171d95da"), looks := false }, kinds := [], alts := [], laidByText := true, laidKinds := [.data, .pinned], laidTests := true, laidLooks := .later }
def NaturalComputesCardSaid : Prop := Claim7.holds Tryd.pinned (.plain (OpenSpec.ofChange naturalComputesSpec)) naturalComputesCard

/-- THE TIED CARD OF 'testgatelaw01.NaturalLaws'. -/
def naturalLawsCard : Claim7 := { stood := { row := naturalLawsRow, standIns := [], harness := (true, "ddd832bb9c49137e178d957effc04f6798cef589f4791d9531a715da171d95da"), looks := false }, kinds := [], alts := [], laidByText := true, laidKinds := [.data, .pinned], laidTests := true, laidLooks := .later }
def NaturalLawsCardSaid : Prop := Claim7.holds Tryd.pinned (.plain (OpenSpec.ofChange naturalLawsSpec)) naturalLawsCard

/-- THE SECOND FORM's CARD OF 'testgatelaw01.NaturalReads'. -/
def naturalReadsUptoCard : Claim7 := { stood := { row := naturalReadsUptoRow, standIns := [], harness := (true, "ddd832bb9c49137e178d957effc04f6798cef589f4791d9531a715da171d95da"), looks := false }, kinds := [], alts := [], laidByText := true, laidKinds := [.data, .pinned], laidTests := true, laidLooks := .later }
def NaturalReadsUptoCardSaid : Prop := Claim7.holds Tryd.pinned (.plain (OpenSpec.upto naturalReadsSpec)) naturalReadsUptoCard

/-- THE SECOND FORM's CARD OF 'testgatelaw01.NaturalPowers'. -/
def naturalPowersUptoCard : Claim7 := { stood := { row := naturalPowersUptoRow, standIns := [], harness := (true, "ddd832bb9c49137e178d957effc04f6798cef589f4791d9531a715da171d95da"), looks := false }, kinds := [], alts := [], laidByText := true, laidKinds := [.data, .pinned], laidTests := true, laidLooks := .later }
def NaturalPowersUptoCardSaid : Prop := Claim7.holds Tryd.pinned (.plain (OpenSpec.upto naturalPowersSpec)) naturalPowersUptoCard

/-- THE SECOND FORM's CARD OF 'testgatelaw01.NaturalTexts'. -/
def naturalTextsUptoCard : Claim7 := { stood := { row := naturalTextsUptoRow, standIns := [], harness := (true, "ddd832bb9c49137e178d957effc04f6798cef589f4791d9531a715da171d95da"), looks := false }, kinds := [], alts := [], laidByText := true, laidKinds := [.data, .pinned], laidTests := true, laidLooks := .later }
def NaturalTextsUptoCardSaid : Prop := Claim7.holds Tryd.pinned (.plain (OpenSpec.upto naturalTextsSpec)) naturalTextsUptoCard

/-- THE SECOND FORM's CARD OF 'testgatelaw01.NaturalBack'. -/
def naturalBackUptoCard : Claim7 := { stood := { row := naturalBackUptoRow, standIns := [], harness := (true, "ddd832bb9c49137e178d957effc04f6798cef589f4791d9531a715da171d95da"), looks := false }, kinds := [], alts := [], laidByText := true, laidKinds := [.data, .pinned], laidTests := true, laidLooks := .later }
def NaturalBackUptoCardSaid : Prop := Claim7.holds Tryd.pinned (.plain (OpenSpec.upto naturalBackSpec)) naturalBackUptoCard

/-- THE SECOND FORM's CARD OF 'testgatelaw01.NaturalComputes'. -/
def naturalComputesUptoCard : Claim7 := { stood := { row := naturalComputesUptoRow, standIns := [], harness := (true, "ddd832bb9c49137e178d957effc04f6798cef589f4791d9531a715da171d95da"), looks := false }, kinds := [], alts := [], laidByText := true, laidKinds := [.data, .pinned], laidTests := true, laidLooks := .later }
def NaturalComputesUptoCardSaid : Prop := Claim7.holds Tryd.pinned (.plain (OpenSpec.upto naturalComputesSpec)) naturalComputesUptoCard

/-- THE SECOND FORM's CARD OF 'testgatelaw01.NaturalLaws'. -/
def naturalLawsUptoCard : Claim7 := { stood := { row := naturalLawsUptoRow, standIns := [], harness := (true, "ddd832bb9c49137e178d957effc04f6798cef589f4791d9531a715da171d95da"), looks := false }, kinds := [], alts := [], laidByText := true, laidKinds := [.data, .pinned], laidTests := true, laidLooks := .later }
def NaturalLawsUptoCardSaid : Prop := Claim7.holds Tryd.pinned (.plain (OpenSpec.upto naturalLawsSpec)) naturalLawsUptoCard
end Rows
end Go.Proofs.YtlndhpljajlneaaDoor
