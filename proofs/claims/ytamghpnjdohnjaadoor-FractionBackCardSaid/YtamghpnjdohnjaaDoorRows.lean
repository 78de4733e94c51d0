/-
  NARROWER THAN 'FOR EVERY INPUT', by the rows' own cells (each row's printed sentence says how): FractionMakes: laid · FractionComputes: laid · FractionLaws: laid · FractionBig: laid · FractionPowers: laid · FractionTexts: laid · FractionBack: laid.
  DERIVED. THE GIVEN ROWS OF THIS SEAT. 7 by the template 'for every input the law returns true; each argument reads behind the call as it read before'; 0 by the template 'total and deterministic' (their statements: YtamghpnjdohnjaaDoorTotals.lean).
  GIVEN WITH THE SEED: the statements are not yours to turn. If you find one false, say at which input.
  Laid BY PROGRAM, IN A SANDBOX (cutbox-rows.mjs): the forced cells as the released guide's own fill.sh prints them over the translation dc9620a1387b6cfd… (all of the seat's roots in one cut). By AI agents, Wed Nov 11 2026. No macro, syntax, notation, axiom, sorry.
-/
import Derived.Test.YtamghpnjdohnjaaDoorChecked
import GoSem.PinnedTables
import GoSem.Claim
import GoSem.ClaimJoined
import GoSem.ClaimMapViews
import Derived.JoinedTies
import Derived.KernelRfl
namespace Go.Proofs.YtamghpnjdohnjaaDoor
/- THE CELL 'sum', in the pinned program and in every row, IS THE sha256 OF THE DUMP (.gsa) THAT YtamghpnjdohnjaaDoorProg.lean LOADS. Nothing in Lean hashes anything: it is a label: what it is worth is what the hold of that sum in a sandbox is worth. -/
noncomputable def Tryd.pinned : Pinned := { name := "ytamghpnjdohnjaadoor", sum := "dc9620a1387b6cfdf2587ad5c31ef860f112eb9b542a8975da142a1c15225805", checked := Tryd.checked }
namespace Rows
def none {H : Type} : Left H := { results := [], args := [] }

/- WHAT THE LISTED PACKAGE-LEVEL VARIABLES READ AS WHEN THE CALL BEGINS. Each datum BY PROGRAM (the guide's laid-datum.mjs) off the statement by which the dump's own 'gosem.cut.vars' lays the variable. In a bare row this is a premise. The card (YtamghpnjdohnjaaDoorCards.lean) ties it to the program's text. -/
def laid_unicode_utf8_acceptRanges {H : Type} : DataW H := .agg [.agg [.lit (.int .u8 128), .lit (.int .u8 191)], .agg [.lit (.int .u8 160), .lit (.int .u8 191)], .agg [.lit (.int .u8 128), .lit (.int .u8 159)], .agg [.lit (.int .u8 144), .lit (.int .u8 191)], .agg [.lit (.int .u8 128), .lit (.int .u8 143)], .agg [.lit (.int .u8 0), .lit (.int .u8 0)], .agg [.lit (.int .u8 0), .lit (.int .u8 0)], .agg [.lit (.int .u8 0), .lit (.int .u8 0)], .agg [.lit (.int .u8 0), .lit (.int .u8 0)], .agg [.lit (.int .u8 0), .lit (.int .u8 0)], .agg [.lit (.int .u8 0), .lit (.int .u8 0)], .agg [.lit (.int .u8 0), .lit (.int .u8 0)], .agg [.lit (.int .u8 0), .lit (.int .u8 0)], .agg [.lit (.int .u8 0), .lit (.int .u8 0)], .agg [.lit (.int .u8 0), .lit (.int .u8 0)], .agg [.lit (.int .u8 0), .lit (.int .u8 0)]]
/-- One of Go's own tables, pinned by name: the form's constant. -/
def laid_unicode_utf8_first : DataW Unit := Go.Pinned.utf8First

/-- 'testgatelaw02.FractionMakes': WHATEVER THE INPUT: true; the input reads as it did. -/
def fractionMakesSpec : ChangeSpec := { name := "fractionMakes", fn := fun _ => fun
  | [d1, d2, d3, d4] => { results := [.lit (.bool true)], args := [d1, d2, d3, d4] }
  | _ => none }
def fractionMakesRow : OpenClaim := { program := "ytamghpnjdohnjaadoor", sum := "dc9620a1387b6cfdf2587ad5c31ef860f112eb9b542a8975da142a1c15225805", func := "testgate/testgatelaw02.FractionMakes", spec := "fractionMakes", inPlace := ["internal/abi.NoEscape", "internal/bytealg.IndexByteString", "internal/bytealg.IndexString"], unfollowed := true, recurses := true, named := ["unicode/utf8.first", "unicode/utf8.acceptRanges", "internal/bytealg.MaxLen"], apart := false, laid := [("unicode/utf8.acceptRanges", laid_unicode_utf8_acceptRanges), ("unicode/utf8.first", laid_unicode_utf8_first)] }
def FractionMakesSaid : Prop := fractionMakesRow.holds Tryd.pinned (OpenSpec.ofChange fractionMakesSpec)

/-- ITS FALSE NEIGHBOUR: 'it returns false'. Refute it at one input. -/
def fractionMakesWrong : ChangeSpec := { name := "fractionMakes", fn := fun _ => fun
  | [d1, d2, d3, d4] => { results := [.lit (.bool false)], args := [d1, d2, d3, d4] }
  | _ => none }
def FractionMakesWrongFalsely : Prop := fractionMakesRow.holds Tryd.pinned (OpenSpec.ofChange fractionMakesWrong)

/-- 'testgatelaw02.FractionComputes': WHATEVER THE INPUT: true; the input reads as it did. -/
def fractionComputesSpec : ChangeSpec := { name := "fractionComputes", fn := fun _ => fun
  | [d1, d2, d3, d4, d5] => { results := [.lit (.bool true)], args := [d1, d2, d3, d4, d5] }
  | _ => none }
def fractionComputesRow : OpenClaim := { program := "ytamghpnjdohnjaadoor", sum := "dc9620a1387b6cfdf2587ad5c31ef860f112eb9b542a8975da142a1c15225805", func := "testgate/testgatelaw02.FractionComputes", spec := "fractionComputes", inPlace := ["internal/abi.NoEscape", "internal/bytealg.IndexByteString", "internal/bytealg.IndexString"], unfollowed := true, recurses := true, named := ["unicode/utf8.first", "unicode/utf8.acceptRanges", "internal/bytealg.MaxLen"], apart := false, laid := [("unicode/utf8.acceptRanges", laid_unicode_utf8_acceptRanges), ("unicode/utf8.first", laid_unicode_utf8_first)] }
def FractionComputesSaid : Prop := fractionComputesRow.holds Tryd.pinned (OpenSpec.ofChange fractionComputesSpec)

/-- ITS FALSE NEIGHBOUR: 'it returns false'. Refute it at one input. -/
def fractionComputesWrong : ChangeSpec := { name := "fractionComputes", fn := fun _ => fun
  | [d1, d2, d3, d4, d5] => { results := [.lit (.bool false)], args := [d1, d2, d3, d4, d5] }
  | _ => none }
def FractionComputesWrongFalsely : Prop := fractionComputesRow.holds Tryd.pinned (OpenSpec.ofChange fractionComputesWrong)

/-- 'testgatelaw02.FractionLaws': WHATEVER THE INPUT: true; the input reads as it did. -/
def fractionLawsSpec : ChangeSpec := { name := "fractionLaws", fn := fun _ => fun
  | [d] => { results := [.lit (.bool true)], args := [d] }
  | _ => none }
def fractionLawsRow : OpenClaim := { program := "ytamghpnjdohnjaadoor", sum := "dc9620a1387b6cfdf2587ad5c31ef860f112eb9b542a8975da142a1c15225805", func := "testgate/testgatelaw02.FractionLaws", spec := "fractionLaws", inPlace := ["internal/abi.NoEscape", "internal/bytealg.IndexByteString", "internal/bytealg.IndexString"], unfollowed := true, recurses := true, named := ["unicode/utf8.first", "unicode/utf8.acceptRanges", "internal/bytealg.MaxLen"], apart := false, laid := [("unicode/utf8.acceptRanges", laid_unicode_utf8_acceptRanges), ("unicode/utf8.first", laid_unicode_utf8_first)] }
def FractionLawsSaid : Prop := fractionLawsRow.holds Tryd.pinned (OpenSpec.ofChange fractionLawsSpec)

/-- ITS FALSE NEIGHBOUR: 'it returns false'. Refute it at one input. -/
def fractionLawsWrong : ChangeSpec := { name := "fractionLaws", fn := fun _ => fun
  | [d] => { results := [.lit (.bool false)], args := [d] }
  | _ => none }
def FractionLawsWrongFalsely : Prop := fractionLawsRow.holds Tryd.pinned (OpenSpec.ofChange fractionLawsWrong)

/-- 'testgatelaw02.FractionBig': WHATEVER THE INPUT: true; the input reads as it did. -/
def fractionBigSpec : ChangeSpec := { name := "fractionBig", fn := fun _ => fun
  | [d1, d2] => { results := [.lit (.bool true)], args := [d1, d2] }
  | _ => none }
def fractionBigRow : OpenClaim := { program := "ytamghpnjdohnjaadoor", sum := "dc9620a1387b6cfdf2587ad5c31ef860f112eb9b542a8975da142a1c15225805", func := "testgate/testgatelaw02.FractionBig", spec := "fractionBig", inPlace := ["internal/abi.NoEscape", "internal/bytealg.IndexByteString", "internal/bytealg.IndexString"], unfollowed := true, recurses := true, named := ["unicode/utf8.first", "unicode/utf8.acceptRanges", "internal/bytealg.MaxLen"], apart := false, laid := [("unicode/utf8.acceptRanges", laid_unicode_utf8_acceptRanges), ("unicode/utf8.first", laid_unicode_utf8_first)] }
def FractionBigSaid : Prop := fractionBigRow.holds Tryd.pinned (OpenSpec.ofChange fractionBigSpec)

/-- ITS FALSE NEIGHBOUR: 'it returns false'. Refute it at one input. -/
def fractionBigWrong : ChangeSpec := { name := "fractionBig", fn := fun _ => fun
  | [d1, d2] => { results := [.lit (.bool false)], args := [d1, d2] }
  | _ => none }
def FractionBigWrongFalsely : Prop := fractionBigRow.holds Tryd.pinned (OpenSpec.ofChange fractionBigWrong)

/-- 'testgatelaw02.FractionPowers': WHATEVER THE INPUT: true; the input reads as it did. -/
def fractionPowersSpec : ChangeSpec := { name := "fractionPowers", fn := fun _ => fun
  | [d1, d2, d3, d4] => { results := [.lit (.bool true)], args := [d1, d2, d3, d4] }
  | _ => none }
def fractionPowersRow : OpenClaim := { program := "ytamghpnjdohnjaadoor", sum := "dc9620a1387b6cfdf2587ad5c31ef860f112eb9b542a8975da142a1c15225805", func := "testgate/testgatelaw02.FractionPowers", spec := "fractionPowers", inPlace := ["internal/abi.NoEscape", "internal/bytealg.IndexByteString", "internal/bytealg.IndexString"], unfollowed := true, recurses := true, named := ["unicode/utf8.first", "unicode/utf8.acceptRanges", "internal/bytealg.MaxLen"], apart := false, laid := [("unicode/utf8.acceptRanges", laid_unicode_utf8_acceptRanges), ("unicode/utf8.first", laid_unicode_utf8_first)] }
def FractionPowersSaid : Prop := fractionPowersRow.holds Tryd.pinned (OpenSpec.ofChange fractionPowersSpec)

/-- ITS FALSE NEIGHBOUR: 'it returns false'. Refute it at one input. -/
def fractionPowersWrong : ChangeSpec := { name := "fractionPowers", fn := fun _ => fun
  | [d1, d2, d3, d4] => { results := [.lit (.bool false)], args := [d1, d2, d3, d4] }
  | _ => none }
def FractionPowersWrongFalsely : Prop := fractionPowersRow.holds Tryd.pinned (OpenSpec.ofChange fractionPowersWrong)

/-- 'testgatelaw02.FractionTexts': WHATEVER THE INPUT: true; the input reads as it did. -/
def fractionTextsSpec : ChangeSpec := { name := "fractionTexts", fn := fun _ => fun
  | [d1, d2, d3, d4, d5] => { results := [.lit (.bool true)], args := [d1, d2, d3, d4, d5] }
  | _ => none }
def fractionTextsRow : OpenClaim := { program := "ytamghpnjdohnjaadoor", sum := "dc9620a1387b6cfdf2587ad5c31ef860f112eb9b542a8975da142a1c15225805", func := "testgate/testgatelaw02.FractionTexts", spec := "fractionTexts", inPlace := ["internal/abi.NoEscape", "internal/bytealg.IndexByteString", "internal/bytealg.IndexString"], unfollowed := true, recurses := true, named := ["unicode/utf8.first", "unicode/utf8.acceptRanges", "internal/bytealg.MaxLen"], apart := false, laid := [("unicode/utf8.acceptRanges", laid_unicode_utf8_acceptRanges), ("unicode/utf8.first", laid_unicode_utf8_first)] }
def FractionTextsSaid : Prop := fractionTextsRow.holds Tryd.pinned (OpenSpec.ofChange fractionTextsSpec)

/-- ITS FALSE NEIGHBOUR: 'it returns false'. Refute it at one input. -/
def fractionTextsWrong : ChangeSpec := { name := "fractionTexts", fn := fun _ => fun
  | [d1, d2, d3, d4, d5] => { results := [.lit (.bool false)], args := [d1, d2, d3, d4, d5] }
  | _ => none }
def FractionTextsWrongFalsely : Prop := fractionTextsRow.holds Tryd.pinned (OpenSpec.ofChange fractionTextsWrong)

/-- 'testgatelaw02.FractionBack': WHATEVER THE INPUT: true; the input reads as it did. -/
def fractionBackSpec : ChangeSpec := { name := "fractionBack", fn := fun _ => fun
  | [d1, d2, d3] => { results := [.lit (.bool true)], args := [d1, d2, d3] }
  | _ => none }
def fractionBackRow : OpenClaim := { program := "ytamghpnjdohnjaadoor", sum := "dc9620a1387b6cfdf2587ad5c31ef860f112eb9b542a8975da142a1c15225805", func := "testgate/testgatelaw02.FractionBack", spec := "fractionBack", inPlace := ["internal/abi.NoEscape", "internal/bytealg.IndexByteString", "internal/bytealg.IndexString"], unfollowed := true, recurses := true, named := ["unicode/utf8.first", "unicode/utf8.acceptRanges", "internal/bytealg.MaxLen"], apart := false, laid := [("unicode/utf8.acceptRanges", laid_unicode_utf8_acceptRanges), ("unicode/utf8.first", laid_unicode_utf8_first)] }
def FractionBackSaid : Prop := fractionBackRow.holds Tryd.pinned (OpenSpec.ofChange fractionBackSpec)

/-- ITS FALSE NEIGHBOUR: 'it returns false'. Refute it at one input. -/
def fractionBackWrong : ChangeSpec := { name := "fractionBack", fn := fun _ => fun
  | [d1, d2, d3] => { results := [.lit (.bool false)], args := [d1, d2, d3] }
  | _ => none }
def FractionBackWrongFalsely : Prop := fractionBackRow.holds Tryd.pinned (OpenSpec.ofChange fractionBackWrong)

/- THE SECOND FORM. 'bulk': how many values and letters a reading holds, each counted each time it is reached (what is shared counts as often as it is met; a slice's spare places count too). A statement '..UptoSaid' is the law's where the arguments, and the package variables that the reading takes, are together of bulk at most 1048576: NARROWER than '..Said'. Prove '..Said' where nothing that the law and all that it calls make is longer than what came in: it says more and counts as full. Else prove '..UptoSaid'. A law counts once. -/
mutual
def uptoBulk {H : Type} : DataW H → Nat
  | .lit (.string bytes) => bytes.length + 1
  | .lit _ => 1
  | .nil => 1
  | .ptr d => uptoBulk d + 1
  | .slice elems spare => uptoBulkAll elems + uptoBulkAll spare + 1
  | .agg parts => uptoBulkAll parts + 1
  | .iface _ d => uptoBulk d + 1
  | .map entries => uptoBulkEntries entries + 1
  | .held _ => 1
def uptoBulkAll {H : Type} : List (DataW H) → Nat
  | [] => 0
  | d :: r => uptoBulk d + uptoBulkAll r
def uptoBulkEntries {H : Type} : List (Lit × DataW H) → Nat
  | [] => 0
  | x :: r => uptoBulkEntry x + uptoBulkEntries r
def uptoBulkEntry {H : Type} : Lit × DataW H → Nat
  | (.string bytes, d) => bytes.length + uptoBulk d + 1
  | (_, d) => uptoBulk d + 1
 end
def uptoSmall : (H : Type) → List (DataW H) → Bool := fun _ ds => decide (uptoBulkAll ds ≤ 1048576)
def OpenSpec.upto (s : _root_.Go.ChangeSpec) : _root_.Go.OpenSpec := { _root_.Go.OpenSpec.ofChange s with cond := some uptoSmall }

/-- 'testgatelaw02.FractionMakes', WHERE WHAT IT READS IS OF BULK AT MOST 1048576: true; the input reads as it did. -/
def fractionMakesUptoRow : OpenClaim := { program := "ytamghpnjdohnjaadoor", sum := "dc9620a1387b6cfdf2587ad5c31ef860f112eb9b542a8975da142a1c15225805", func := "testgate/testgatelaw02.FractionMakes", spec := "fractionMakes", inPlace := ["internal/abi.NoEscape", "internal/bytealg.IndexByteString", "internal/bytealg.IndexString"], unfollowed := true, recurses := true, named := ["unicode/utf8.first", "unicode/utf8.acceptRanges", "internal/bytealg.MaxLen"], apart := false, laid := [("unicode/utf8.acceptRanges", laid_unicode_utf8_acceptRanges), ("unicode/utf8.first", laid_unicode_utf8_first)], narrowed := true }
def FractionMakesUptoSaid : Prop := fractionMakesUptoRow.holds Tryd.pinned (OpenSpec.upto fractionMakesSpec)

/-- 'testgatelaw02.FractionComputes', WHERE WHAT IT READS IS OF BULK AT MOST 1048576: true; the input reads as it did. -/
def fractionComputesUptoRow : OpenClaim := { program := "ytamghpnjdohnjaadoor", sum := "dc9620a1387b6cfdf2587ad5c31ef860f112eb9b542a8975da142a1c15225805", func := "testgate/testgatelaw02.FractionComputes", spec := "fractionComputes", inPlace := ["internal/abi.NoEscape", "internal/bytealg.IndexByteString", "internal/bytealg.IndexString"], unfollowed := true, recurses := true, named := ["unicode/utf8.first", "unicode/utf8.acceptRanges", "internal/bytealg.MaxLen"], apart := false, laid := [("unicode/utf8.acceptRanges", laid_unicode_utf8_acceptRanges), ("unicode/utf8.first", laid_unicode_utf8_first)], narrowed := true }
def FractionComputesUptoSaid : Prop := fractionComputesUptoRow.holds Tryd.pinned (OpenSpec.upto fractionComputesSpec)

/-- 'testgatelaw02.FractionLaws', WHERE WHAT IT READS IS OF BULK AT MOST 1048576: true; the input reads as it did. -/
def fractionLawsUptoRow : OpenClaim := { program := "ytamghpnjdohnjaadoor", sum := "dc9620a1387b6cfdf2587ad5c31ef860f112eb9b542a8975da142a1c15225805", func := "testgate/testgatelaw02.FractionLaws", spec := "fractionLaws", inPlace := ["internal/abi.NoEscape", "internal/bytealg.IndexByteString", "internal/bytealg.IndexString"], unfollowed := true, recurses := true, named := ["unicode/utf8.first", "unicode/utf8.acceptRanges", "internal/bytealg.MaxLen"], apart := false, laid := [("unicode/utf8.acceptRanges", laid_unicode_utf8_acceptRanges), ("unicode/utf8.first", laid_unicode_utf8_first)], narrowed := true }
def FractionLawsUptoSaid : Prop := fractionLawsUptoRow.holds Tryd.pinned (OpenSpec.upto fractionLawsSpec)

/-- 'testgatelaw02.FractionBig', WHERE WHAT IT READS IS OF BULK AT MOST 1048576: true; the input reads as it did. -/
def fractionBigUptoRow : OpenClaim := { program := "ytamghpnjdohnjaadoor", sum := "dc9620a1387b6cfdf2587ad5c31ef860f112eb9b542a8975da142a1c15225805", func := "testgate/testgatelaw02.FractionBig", spec := "fractionBig", inPlace := ["internal/abi.NoEscape", "internal/bytealg.IndexByteString", "internal/bytealg.IndexString"], unfollowed := true, recurses := true, named := ["unicode/utf8.first", "unicode/utf8.acceptRanges", "internal/bytealg.MaxLen"], apart := false, laid := [("unicode/utf8.acceptRanges", laid_unicode_utf8_acceptRanges), ("unicode/utf8.first", laid_unicode_utf8_first)], narrowed := true }
def FractionBigUptoSaid : Prop := fractionBigUptoRow.holds Tryd.pinned (OpenSpec.upto fractionBigSpec)

/-- 'testgatelaw02.FractionPowers', WHERE WHAT IT READS IS OF BULK AT MOST 1048576: true; the input reads as it did. -/
def fractionPowersUptoRow : OpenClaim := { program := "ytamghpnjdohnjaadoor", sum := "dc9620a1387b6cfdf2587ad5c31ef860f112eb9b542a8975da142a1c15225805", func := "testgate/testgatelaw02.FractionPowers", spec := "fractionPowers", inPlace := ["internal/abi.NoEscape", "internal/bytealg.IndexByteString", "internal/bytealg.IndexString"], unfollowed := true, recurses := true, named := ["unicode/utf8.first", "unicode/utf8.acceptRanges", "internal/bytealg.MaxLen"], apart := false, laid := [("unicode/utf8.acceptRanges", laid_unicode_utf8_acceptRanges), ("unicode/utf8.first", laid_unicode_utf8_first)], narrowed := true }
def FractionPowersUptoSaid : Prop := fractionPowersUptoRow.holds Tryd.pinned (OpenSpec.upto fractionPowersSpec)

/-- 'testgatelaw02.FractionTexts', WHERE WHAT IT READS IS OF BULK AT MOST 1048576: true; the input reads as it did. -/
def fractionTextsUptoRow : OpenClaim := { program := "ytamghpnjdohnjaadoor", sum := "dc9620a1387b6cfdf2587ad5c31ef860f112eb9b542a8975da142a1c15225805", func := "testgate/testgatelaw02.FractionTexts", spec := "fractionTexts", inPlace := ["internal/abi.NoEscape", "internal/bytealg.IndexByteString", "internal/bytealg.IndexString"], unfollowed := true, recurses := true, named := ["unicode/utf8.first", "unicode/utf8.acceptRanges", "internal/bytealg.MaxLen"], apart := false, laid := [("unicode/utf8.acceptRanges", laid_unicode_utf8_acceptRanges), ("unicode/utf8.first", laid_unicode_utf8_first)], narrowed := true }
def FractionTextsUptoSaid : Prop := fractionTextsUptoRow.holds Tryd.pinned (OpenSpec.upto fractionTextsSpec)

/-- 'testgatelaw02.FractionBack', WHERE WHAT IT READS IS OF BULK AT MOST 1048576: true; the input reads as it did. -/
def fractionBackUptoRow : OpenClaim := { program := "ytamghpnjdohnjaadoor", sum := "dc9620a1387b6cfdf2587ad5c31ef860f112eb9b542a8975da142a1c15225805", func := "testgate/testgatelaw02.FractionBack", spec := "fractionBack", inPlace := ["internal/abi.NoEscape", "internal/bytealg.IndexByteString", "internal/bytealg.IndexString"], unfollowed := true, recurses := true, named := ["unicode/utf8.first", "unicode/utf8.acceptRanges", "internal/bytealg.MaxLen"], apart := false, laid := [("unicode/utf8.acceptRanges", laid_unicode_utf8_acceptRanges), ("unicode/utf8.first", laid_unicode_utf8_first)], narrowed := true }
def FractionBackUptoSaid : Prop := fractionBackUptoRow.holds Tryd.pinned (OpenSpec.upto fractionBackSpec)

end Rows
end Go.Proofs.YtamghpnjdohnjaaDoor
