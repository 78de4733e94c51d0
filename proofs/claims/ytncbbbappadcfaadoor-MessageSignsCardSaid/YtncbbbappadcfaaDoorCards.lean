/-
  DERIVED. GIVEN WITH THE SEED: THE CARDS: each row of YtncbbbappadcfaaDoorRows.lean that lists a variable, with what it lists TIED to the program's text (the seventh form; the later family's looks); each row that meets fmt, with fmt's text TOLD by the authors' own Lean function (tested against real Go, not proved from fmt's source: count such statements apart). THE CARD IS WHAT COUNTS. Prove the row's statement (the work); the ties are given (YtncbbbappadcfaaDoorTie.lean); close each card by the builder's one call (the guide's Derived/Test/ToyasCard.lean, 'card_holds'). Laid BY PROGRAM, IN A SANDBOX (cutbox-door.mjs). By AI agents, Wed Nov 11 2026. No macro, syntax, notation, axiom, sorry.
-/
import Derived.Test.YtncbbbappadcfaaDoorRows
import GoSem.ClaimSeven
namespace Go.Proofs.YtncbbbappadcfaaDoor
namespace Rows

/-- THE TIED CARD OF 'testgatelaw26.MessageTwice'. -/
def messageTwiceCard : Claim7 := { stood := { row := messageTwiceRow, standIns := [], harness := (true, "c9e4bc61c646125bb01551274704b0676827513169960d43631514a812546be3"), looks := false }, kinds := [], alts := [], laidByText := true, laidKinds := [.widerDeep], laidTests := true, laidLooks := .later }
def MessageTwiceCardSaid : Prop := Claim7.holds Tryd.pinned (.plain (OpenSpec.ofChange messageTwiceSpec)) messageTwiceCard

/-- THE TIED CARD OF 'testgatelaw26.MessageLines'. -/
def messageLinesCard : Claim7 := { stood := { row := messageLinesRow, standIns := [], harness := (true, "c9e4bc61c646125bb01551274704b0676827513169960d43631514a812546be3"), looks := false }, kinds := [], alts := [], laidByText := true, laidKinds := [.widerDeep], laidTests := true, laidLooks := .later }
def MessageLinesCardSaid : Prop := Claim7.holds Tryd.pinned (.plain (OpenSpec.ofChange messageLinesSpec)) messageLinesCard

/-- THE TIED CARD OF 'testgatelaw26.MessageNormals'. -/
def messageNormalsCard : Claim7 := { stood := { row := messageNormalsRow, standIns := [], harness := (true, "c9e4bc61c646125bb01551274704b0676827513169960d43631514a812546be3"), looks := false }, kinds := [], alts := [], laidByText := true, laidKinds := [.widerDeep], laidTests := true, laidLooks := .later }
def MessageNormalsCardSaid : Prop := Claim7.holds Tryd.pinned (.plain (OpenSpec.ofChange messageNormalsSpec)) messageNormalsCard

/-- THE TIED CARD OF 'testgatelaw26.MessageSigns'. -/
def messageSignsCard : Claim7 := { stood := { row := messageSignsRow, standIns := [], harness := (true, "c9e4bc61c646125bb01551274704b0676827513169960d43631514a812546be3"), looks := false }, kinds := [], alts := [], laidByText := true, laidKinds := [.widerDeep], laidTests := true, laidLooks := .later }
def MessageSignsCardSaid : Prop := Claim7.holds Tryd.pinned (.plain (OpenSpec.ofChange messageSignsSpec)) messageSignsCard

/-- THE SECOND FORM's CARD OF 'testgatelaw26.MessageTwice'. -/
def messageTwiceUptoCard : Claim7 := { stood := { row := messageTwiceUptoRow, standIns := [], harness := (true, "c9e4bc61c646125bb01551274704b0676827513169960d43631514a812546be3"), looks := false }, kinds := [], alts := [], laidByText := true, laidKinds := [.widerDeep], laidTests := true, laidLooks := .later }
def MessageTwiceUptoCardSaid : Prop := Claim7.holds Tryd.pinned (.plain (OpenSpec.upto messageTwiceSpec)) messageTwiceUptoCard

/-- THE SECOND FORM's CARD OF 'testgatelaw26.MessageLines'. -/
def messageLinesUptoCard : Claim7 := { stood := { row := messageLinesUptoRow, standIns := [], harness := (true, "c9e4bc61c646125bb01551274704b0676827513169960d43631514a812546be3"), looks := false }, kinds := [], alts := [], laidByText := true, laidKinds := [.widerDeep], laidTests := true, laidLooks := .later }
def MessageLinesUptoCardSaid : Prop := Claim7.holds Tryd.pinned (.plain (OpenSpec.upto messageLinesSpec)) messageLinesUptoCard

/-- THE SECOND FORM's CARD OF 'testgatelaw26.MessageNormals'. -/
def messageNormalsUptoCard : Claim7 := { stood := { row := messageNormalsUptoRow, standIns := [], harness := (true, "c9e4bc61c646125bb01551274704b0676827513169960d43631514a812546be3"), looks := false }, kinds := [], alts := [], laidByText := true, laidKinds := [.widerDeep], laidTests := true, laidLooks := .later }
def MessageNormalsUptoCardSaid : Prop := Claim7.holds Tryd.pinned (.plain (OpenSpec.upto messageNormalsSpec)) messageNormalsUptoCard

/-- THE SECOND FORM's CARD OF 'testgatelaw26.MessageSigns'. -/
def messageSignsUptoCard : Claim7 := { stood := { row := messageSignsUptoRow, standIns := [], harness := (true, "c9e4bc61c646125bb01551274704b0676827513169960d43631514a812546be3"), looks := false }, kinds := [], alts := [], laidByText := true, laidKinds := [.widerDeep], laidTests := true, laidLooks := .later }
def MessageSignsUptoCardSaid : Prop := Claim7.holds Tryd.pinned (.plain (OpenSpec.upto messageSignsSpec)) messageSignsUptoCard
end Rows
end Go.Proofs.YtncbbbappadcfaaDoor
