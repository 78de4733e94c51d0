/-
  NARROWER THAN 'FOR EVERY INPUT', by the rows' own cells (each row's printed sentence says how): NaturalReads: laid · NaturalPowers: laid · NaturalTexts: laid · NaturalBack: laid · NaturalComputes: laid · NaturalLaws: laid.
  DERIVED. THE GIVEN ROWS OF THIS SEAT. 6 by the template 'for every input the law returns true; each argument reads behind the call as it read before'; 0 by the template 'total and deterministic' (their statements: YtlndhpljajlneaaDoorTotals.lean).
  GIVEN WITH THE SEED: the statements are not yours to turn. If you find one false, say at which input.
  Laid BY PROGRAM, IN A SANDBOX (cutbox-rows.mjs): the forced cells as the released guide's own fill.sh prints them over the translation 55a6f23bfa823cd2… (all of the seat's roots in one cut). By AI agents, Wed Nov 11 2026. No macro, syntax, notation, axiom, sorry.
-/
import Derived.Test.YtlndhpljajlneaaDoorChecked
import GoSem.PinnedTables
import GoSem.Claim
import GoSem.ClaimJoined
import GoSem.ClaimMapViews
import Derived.JoinedTies
import Derived.KernelRfl
namespace Go.Proofs.YtlndhpljajlneaaDoor
/- THE CELL 'sum', in the pinned program and in every row, IS THE sha256 OF THE DUMP (.gsa) THAT YtlndhpljajlneaaDoorProg.lean LOADS. Nothing in Lean hashes anything: it is a label: what it is worth is what the hold of that sum in a sandbox is worth. -/
noncomputable def Tryd.pinned : Pinned := { name := "ytlndhpljajlneaadoor", sum := "55a6f23bfa823cd282ee0e45e6b99e50256ca641e56c0008dee3cf45abdc65b0", checked := Tryd.checked }
namespace Rows
def none {H : Type} : Left H := { results := [], args := [] }

/- WHAT THE LISTED PACKAGE-LEVEL VARIABLES READ AS WHEN THE CALL BEGINS. Each datum BY PROGRAM (the guide's laid-datum.mjs) off the statement by which the dump's own 'gosem.cut.vars' lays the variable. In a bare row this is a premise. The card (YtlndhpljajlneaaDoorCards.lean) ties it to the program's text. -/
def laid_unicode_utf8_acceptRanges {H : Type} : DataW H := .agg [.agg [.lit (.int .u8 128), .lit (.int .u8 191)], .agg [.lit (.int .u8 160), .lit (.int .u8 191)], .agg [.lit (.int .u8 128), .lit (.int .u8 159)], .agg [.lit (.int .u8 144), .lit (.int .u8 191)], .agg [.lit (.int .u8 128), .lit (.int .u8 143)], .agg [.lit (.int .u8 0), .lit (.int .u8 0)], .agg [.lit (.int .u8 0), .lit (.int .u8 0)], .agg [.lit (.int .u8 0), .lit (.int .u8 0)], .agg [.lit (.int .u8 0), .lit (.int .u8 0)], .agg [.lit (.int .u8 0), .lit (.int .u8 0)], .agg [.lit (.int .u8 0), .lit (.int .u8 0)], .agg [.lit (.int .u8 0), .lit (.int .u8 0)], .agg [.lit (.int .u8 0), .lit (.int .u8 0)], .agg [.lit (.int .u8 0), .lit (.int .u8 0)], .agg [.lit (.int .u8 0), .lit (.int .u8 0)], .agg [.lit (.int .u8 0), .lit (.int .u8 0)]]
/-- One of Go's own tables, pinned by name: the form's constant. -/
def laid_unicode_utf8_first : DataW Unit := Go.Pinned.utf8First

/-- 'testgatelaw01.NaturalReads': WHATEVER THE INPUT: true; the input reads as it did. -/
def naturalReadsSpec : ChangeSpec := { name := "naturalReads", fn := fun _ => fun
  | [d1, d2, d3] => { results := [.lit (.bool true)], args := [d1, d2, d3] }
  | _ => none }
def naturalReadsRow : OpenClaim := { program := "ytlndhpljajlneaadoor", sum := "55a6f23bfa823cd282ee0e45e6b99e50256ca641e56c0008dee3cf45abdc65b0", func := "testgate/testgatelaw01.NaturalReads", spec := "naturalReads", inPlace := ["internal/abi.NoEscape", "internal/bytealg.IndexByteString", "internal/bytealg.IndexString"], unfollowed := true, recurses := true, named := ["unicode/utf8.first", "unicode/utf8.acceptRanges", "internal/bytealg.MaxLen"], apart := false, laid := [("unicode/utf8.acceptRanges", laid_unicode_utf8_acceptRanges), ("unicode/utf8.first", laid_unicode_utf8_first)] }
def NaturalReadsSaid : Prop := naturalReadsRow.holds Tryd.pinned (OpenSpec.ofChange naturalReadsSpec)

/-- ITS FALSE NEIGHBOUR: 'it returns false'. Refute it at one input. -/
def naturalReadsWrong : ChangeSpec := { name := "naturalReads", fn := fun _ => fun
  | [d1, d2, d3] => { results := [.lit (.bool false)], args := [d1, d2, d3] }
  | _ => none }
def NaturalReadsWrongFalsely : Prop := naturalReadsRow.holds Tryd.pinned (OpenSpec.ofChange naturalReadsWrong)

/-- 'testgatelaw01.NaturalPowers': WHATEVER THE INPUT: true; the input reads as it did. -/
def naturalPowersSpec : ChangeSpec := { name := "naturalPowers", fn := fun _ => fun
  | [d1, d2] => { results := [.lit (.bool true)], args := [d1, d2] }
  | _ => none }
def naturalPowersRow : OpenClaim := { program := "ytlndhpljajlneaadoor", sum := "55a6f23bfa823cd282ee0e45e6b99e50256ca641e56c0008dee3cf45abdc65b0", func := "testgate/testgatelaw01.NaturalPowers", spec := "naturalPowers", inPlace := ["internal/abi.NoEscape", "internal/bytealg.IndexByteString", "internal/bytealg.IndexString"], unfollowed := true, recurses := true, named := ["unicode/utf8.first", "unicode/utf8.acceptRanges", "internal/bytealg.MaxLen"], apart := false, laid := [("unicode/utf8.acceptRanges", laid_unicode_utf8_acceptRanges), ("unicode/utf8.first", laid_unicode_utf8_first)] }
def NaturalPowersSaid : Prop := naturalPowersRow.holds Tryd.pinned (OpenSpec.ofChange naturalPowersSpec)

/-- ITS FALSE NEIGHBOUR: 'it returns false'. Refute it at one input. -/
def naturalPowersWrong : ChangeSpec := { name := "naturalPowers", fn := fun _ => fun
  | [d1, d2] => { results := [.lit (.bool false)], args := [d1, d2] }
  | _ => none }
def NaturalPowersWrongFalsely : Prop := naturalPowersRow.holds Tryd.pinned (OpenSpec.ofChange naturalPowersWrong)

/-- 'testgatelaw01.NaturalTexts': WHATEVER THE INPUT: true; the input reads as it did. -/
def naturalTextsSpec : ChangeSpec := { name := "naturalTexts", fn := fun _ => fun
  | [d1, d2] => { results := [.lit (.bool true)], args := [d1, d2] }
  | _ => none }
def naturalTextsRow : OpenClaim := { program := "ytlndhpljajlneaadoor", sum := "55a6f23bfa823cd282ee0e45e6b99e50256ca641e56c0008dee3cf45abdc65b0", func := "testgate/testgatelaw01.NaturalTexts", spec := "naturalTexts", inPlace := ["internal/abi.NoEscape", "internal/bytealg.IndexByteString", "internal/bytealg.IndexString"], unfollowed := true, recurses := true, named := ["unicode/utf8.first", "unicode/utf8.acceptRanges", "internal/bytealg.MaxLen"], apart := false, laid := [("unicode/utf8.acceptRanges", laid_unicode_utf8_acceptRanges), ("unicode/utf8.first", laid_unicode_utf8_first)] }
def NaturalTextsSaid : Prop := naturalTextsRow.holds Tryd.pinned (OpenSpec.ofChange naturalTextsSpec)

/-- ITS FALSE NEIGHBOUR: 'it returns false'. Refute it at one input. -/
def naturalTextsWrong : ChangeSpec := { name := "naturalTexts", fn := fun _ => fun
  | [d1, d2] => { results := [.lit (.bool false)], args := [d1, d2] }
  | _ => none }
def NaturalTextsWrongFalsely : Prop := naturalTextsRow.holds Tryd.pinned (OpenSpec.ofChange naturalTextsWrong)

/-- 'testgatelaw01.NaturalBack': WHATEVER THE INPUT: true; the input reads as it did. -/
def naturalBackSpec : ChangeSpec := { name := "naturalBack", fn := fun _ => fun
  | [d] => { results := [.lit (.bool true)], args := [d] }
  | _ => none }
def naturalBackRow : OpenClaim := { program := "ytlndhpljajlneaadoor", sum := "55a6f23bfa823cd282ee0e45e6b99e50256ca641e56c0008dee3cf45abdc65b0", func := "testgate/testgatelaw01.NaturalBack", spec := "naturalBack", inPlace := ["internal/abi.NoEscape", "internal/bytealg.IndexByteString", "internal/bytealg.IndexString"], unfollowed := true, recurses := true, named := ["unicode/utf8.first", "unicode/utf8.acceptRanges", "internal/bytealg.MaxLen"], apart := false, laid := [("unicode/utf8.acceptRanges", laid_unicode_utf8_acceptRanges), ("unicode/utf8.first", laid_unicode_utf8_first)] }
def NaturalBackSaid : Prop := naturalBackRow.holds Tryd.pinned (OpenSpec.ofChange naturalBackSpec)

/-- ITS FALSE NEIGHBOUR: 'it returns false'. Refute it at one input. -/
def naturalBackWrong : ChangeSpec := { name := "naturalBack", fn := fun _ => fun
  | [d] => { results := [.lit (.bool false)], args := [d] }
  | _ => none }
def NaturalBackWrongFalsely : Prop := naturalBackRow.holds Tryd.pinned (OpenSpec.ofChange naturalBackWrong)

/-- 'testgatelaw01.NaturalComputes': WHATEVER THE INPUT: true; the input reads as it did. -/
def naturalComputesSpec : ChangeSpec := { name := "naturalComputes", fn := fun _ => fun
  | [d1, d2] => { results := [.lit (.bool true)], args := [d1, d2] }
  | _ => none }
def naturalComputesRow : OpenClaim := { program := "ytlndhpljajlneaadoor", sum := "55a6f23bfa823cd282ee0e45e6b99e50256ca641e56c0008dee3cf45abdc65b0", func := "testgate/testgatelaw01.NaturalComputes", spec := "naturalComputes", inPlace := ["internal/abi.NoEscape", "internal/bytealg.IndexByteString", "internal/bytealg.IndexString"], unfollowed := true, recurses := true, named := ["unicode/utf8.first", "unicode/utf8.acceptRanges", "internal/bytealg.MaxLen"], apart := false, laid := [("unicode/utf8.acceptRanges", laid_unicode_utf8_acceptRanges), ("unicode/utf8.first", laid_unicode_utf8_first)] }
def NaturalComputesSaid : Prop := naturalComputesRow.holds Tryd.pinned (OpenSpec.ofChange naturalComputesSpec)

/-- ITS FALSE NEIGHBOUR: 'it returns false'. Refute it at one input. -/
def naturalComputesWrong : ChangeSpec := { name := "naturalComputes", fn := fun _ => fun
  | [d1, d2] => { results := [.lit (.bool false)], args := [d1, d2] }
  | _ => none }
def NaturalComputesWrongFalsely : Prop := naturalComputesRow.holds Tryd.pinned (OpenSpec.ofChange naturalComputesWrong)

/-- 'testgatelaw01.NaturalLaws': WHATEVER THE INPUT: true; the input reads as it did. -/
def naturalLawsSpec : ChangeSpec := { name := "naturalLaws", fn := fun _ => fun
  | [d1, d2, d3] => { results := [.lit (.bool true)], args := [d1, d2, d3] }
  | _ => none }
def naturalLawsRow : OpenClaim := { program := "ytlndhpljajlneaadoor", sum := "55a6f23bfa823cd282ee0e45e6b99e50256ca641e56c0008dee3cf45abdc65b0", func := "testgate/testgatelaw01.NaturalLaws", spec := "naturalLaws", inPlace := ["internal/abi.NoEscape", "internal/bytealg.IndexByteString", "internal/bytealg.IndexString"], unfollowed := true, recurses := true, named := ["unicode/utf8.first", "unicode/utf8.acceptRanges", "internal/bytealg.MaxLen"], apart := false, laid := [("unicode/utf8.acceptRanges", laid_unicode_utf8_acceptRanges), ("unicode/utf8.first", laid_unicode_utf8_first)] }
def NaturalLawsSaid : Prop := naturalLawsRow.holds Tryd.pinned (OpenSpec.ofChange naturalLawsSpec)

/-- ITS FALSE NEIGHBOUR: 'it returns false'. Refute it at one input. -/
def naturalLawsWrong : ChangeSpec := { name := "naturalLaws", fn := fun _ => fun
  | [d1, d2, d3] => { results := [.lit (.bool false)], args := [d1, d2, d3] }
  | _ => none }
def NaturalLawsWrongFalsely : Prop := naturalLawsRow.holds Tryd.pinned (OpenSpec.ofChange naturalLawsWrong)

/- THE SECOND FORM. 'bulk': how many values and letters a reading holds, each counted each time it is reached (what is shared counts as often as it is met; a slice's spare places count too). A statement '..UptoSaid' is the law's where the arguments, and the package variables that the reading takes, are together of bulk at most 1048576: NARROWER than '..Said'. Prove '..Said' where nothing that the law and all that it calls make is longer than what came in: it says more and counts as full. Else prove '..UptoSaid'. A law counts once. -/
mutual
def uptoBulk {H : Type} : DataW H → Nat
  | .lit (.string bytes) => bytes.length + 1
  | .lit _ => 1
  | .nil => 1
  | .ptr d => uptoBulk d + 1
  | .slice elems spare => uptoBulkAll elems + uptoBulkAll spare + 1
  | .agg parts => uptoBulkAll parts + 1
  | .iface _ d => uptoBulk d + 1
  | .map entries => uptoBulkEntries entries + 1
  | .held _ => 1
def uptoBulkAll {H : Type} : List (DataW H) → Nat
  | [] => 0
  | d :: r => uptoBulk d + uptoBulkAll r
def uptoBulkEntries {H : Type} : List (Lit × DataW H) → Nat
  | [] => 0
  | x :: r => uptoBulkEntry x + uptoBulkEntries r
def uptoBulkEntry {H : Type} : Lit × DataW H → Nat
  | (.string bytes, d) => bytes.length + uptoBulk d + 1
  | (_, d) => uptoBulk d + 1
 end
def uptoSmall : (H : Type) → List (DataW H) → Bool := fun _ ds => decide (uptoBulkAll ds ≤ 1048576)
def OpenSpec.upto (s : _root_.Go.ChangeSpec) : _root_.Go.OpenSpec := { _root_.Go.OpenSpec.ofChange s with cond := some uptoSmall }

/-- 'testgatelaw01.NaturalReads', WHERE WHAT IT READS IS OF BULK AT MOST 1048576: true; the input reads as it did. -/
def naturalReadsUptoRow : OpenClaim := { program := "ytlndhpljajlneaadoor", sum := "55a6f23bfa823cd282ee0e45e6b99e50256ca641e56c0008dee3cf45abdc65b0", func := "testgate/testgatelaw01.NaturalReads", spec := "naturalReads", inPlace := ["internal/abi.NoEscape", "internal/bytealg.IndexByteString", "internal/bytealg.IndexString"], unfollowed := true, recurses := true, named := ["unicode/utf8.first", "unicode/utf8.acceptRanges", "internal/bytealg.MaxLen"], apart := false, laid := [("unicode/utf8.acceptRanges", laid_unicode_utf8_acceptRanges), ("unicode/utf8.first", laid_unicode_utf8_first)], narrowed := true }
def NaturalReadsUptoSaid : Prop := naturalReadsUptoRow.holds Tryd.pinned (OpenSpec.upto naturalReadsSpec)

/-- 'testgatelaw01.NaturalPowers', WHERE WHAT IT READS IS OF BULK AT MOST 1048576: true; the input reads as it did. -/
def naturalPowersUptoRow : OpenClaim := { program := "ytlndhpljajlneaadoor", sum := "55a6f23bfa823cd282ee0e45e6b99e50256ca641e56c0008dee3cf45abdc65b0", func := "testgate/testgatelaw01.NaturalPowers", spec := "naturalPowers", inPlace := ["internal/abi.NoEscape", "internal/bytealg.IndexByteString", "internal/bytealg.IndexString"], unfollowed := true, recurses := true, named := ["unicode/utf8.first", "unicode/utf8.acceptRanges", "internal/bytealg.MaxLen"], apart := false, laid := [("unicode/utf8.acceptRanges", laid_unicode_utf8_acceptRanges), ("unicode/utf8.first", laid_unicode_utf8_first)], narrowed := true }
def NaturalPowersUptoSaid : Prop := naturalPowersUptoRow.holds Tryd.pinned (OpenSpec.upto naturalPowersSpec)

/-- 'testgatelaw01.NaturalTexts', WHERE WHAT IT READS IS OF BULK AT MOST 1048576: true; the input reads as it did. -/
def naturalTextsUptoRow : OpenClaim := { program := "ytlndhpljajlneaadoor", sum := "55a6f23bfa823cd282ee0e45e6b99e50256ca641e56c0008dee3cf45abdc65b0", func := "testgate/testgatelaw01.NaturalTexts", spec := "naturalTexts", inPlace := ["internal/abi.NoEscape", "internal/bytealg.IndexByteString", "internal/bytealg.IndexString"], unfollowed := true, recurses := true, named := ["unicode/utf8.first", "unicode/utf8.acceptRanges", "internal/bytealg.MaxLen"], apart := false, laid := [("unicode/utf8.acceptRanges", laid_unicode_utf8_acceptRanges), ("unicode/utf8.first", laid_unicode_utf8_first)], narrowed := true }
def NaturalTextsUptoSaid : Prop := naturalTextsUptoRow.holds Tryd.pinned (OpenSpec.upto naturalTextsSpec)

/-- 'testgatelaw01.NaturalBack', WHERE WHAT IT READS IS OF BULK AT MOST 1048576: true; the input reads as it did. -/
def naturalBackUptoRow : OpenClaim := { program := "ytlndhpljajlneaadoor", sum := "55a6f23bfa823cd282ee0e45e6b99e50256ca641e56c0008dee3cf45abdc65b0", func := "testgate/testgatelaw01.NaturalBack", spec := "naturalBack", inPlace := ["internal/abi.NoEscape", "internal/bytealg.IndexByteString", "internal/bytealg.IndexString"], unfollowed := true, recurses := true, named := ["unicode/utf8.first", "unicode/utf8.acceptRanges", "internal/bytealg.MaxLen"], apart := false, laid := [("unicode/utf8.acceptRanges", laid_unicode_utf8_acceptRanges), ("unicode/utf8.first", laid_unicode_utf8_first)], narrowed := true }
def NaturalBackUptoSaid : Prop := naturalBackUptoRow.holds Tryd.pinned (OpenSpec.upto naturalBackSpec)

/-- 'testgatelaw01.NaturalComputes', WHERE WHAT IT READS IS OF BULK AT MOST 1048576: true; the input reads as it did. -/
def naturalComputesUptoRow : OpenClaim := { program := "ytlndhpljajlneaadoor", sum := "55a6f23bfa823cd282ee0e45e6b99e50256ca641e56c0008dee3cf45abdc65b0", func := "testgate/testgatelaw01.NaturalComputes", spec := "naturalComputes", inPlace := ["internal/abi.NoEscape", "internal/bytealg.IndexByteString", "internal/bytealg.IndexString"], unfollowed := true, recurses := true, named := ["unicode/utf8.first", "unicode/utf8.acceptRanges", "internal/bytealg.MaxLen"], apart := false, laid := [("unicode/utf8.acceptRanges", laid_unicode_utf8_acceptRanges), ("unicode/utf8.first", laid_unicode_utf8_first)], narrowed := true }
def NaturalComputesUptoSaid : Prop := naturalComputesUptoRow.holds Tryd.pinned (OpenSpec.upto naturalComputesSpec)

/-- 'testgatelaw01.NaturalLaws', WHERE WHAT IT READS IS OF BULK AT MOST 1048576: true; the input reads as it did. -/
def naturalLawsUptoRow : OpenClaim := { program := "ytlndhpljajlneaadoor", sum := "55a6f23bfa823cd282ee0e45e6b99e50256ca641e56c0008dee3cf45abdc65b0", func := "testgate/testgatelaw01.NaturalLaws", spec := "naturalLaws", inPlace := ["internal/abi.NoEscape", "internal/bytealg.IndexByteString", "internal/bytealg.IndexString"], unfollowed := true, recurses := true, named := ["unicode/utf8.first", "unicode/utf8.acceptRanges", "internal/bytealg.MaxLen"], apart := false, laid := [("unicode/utf8.acceptRanges", laid_unicode_utf8_acceptRanges), ("unicode/utf8.first", laid_unicode_utf8_first)], narrowed := true }
def NaturalLawsUptoSaid : Prop := naturalLawsUptoRow.holds Tryd.pinned (OpenSpec.upto naturalLawsSpec)

end Rows
end Go.Proofs.YtlndhpljajlneaaDoor
