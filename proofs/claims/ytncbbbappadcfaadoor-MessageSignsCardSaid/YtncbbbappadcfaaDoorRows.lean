/-
  NARROWER THAN 'FOR EVERY INPUT', by the rows' own cells (each row's printed sentence says how): MessageTwice: laid · MessageLines: laid · MessageNormals: laid · MessageSigns: laid.
  DERIVED. THE GIVEN ROWS OF THIS SEAT. 4 by the template 'for every input the law returns true; each argument reads behind the call as it read before'; 0 by the template 'total and deterministic' (their statements: YtncbbbappadcfaaDoorTotals.lean).
  GIVEN WITH THE SEED: the statements are not yours to turn. If you find one false, say at which input.
  Laid BY PROGRAM, IN A SANDBOX (cutbox-rows.mjs): the forced cells as the released guide's own fill.sh prints them over the translation eedd921e96f40ae1… (all of the seat's roots in one cut). By AI agents, Wed Nov 11 2026. No macro, syntax, notation, axiom, sorry.
-/
import Derived.Test.YtncbbbappadcfaaDoorChecked
import GoSem.Claim
import GoSem.ClaimJoined
import GoSem.ClaimMapViews
import Derived.JoinedTies
import Derived.KernelRfl
namespace Go.Proofs.YtncbbbappadcfaaDoor
/- THE CELL 'sum', in the pinned program and in every row, IS THE sha256 OF THE DUMP (.gsa) THAT YtncbbbappadcfaaDoorProg.lean LOADS. Nothing in Lean hashes anything: it is a label: what it is worth is what the hold of that sum in a sandbox is worth. -/
noncomputable def Tryd.pinned : Pinned := { name := "ytncbbbappadcfaadoor", sum := "eedd921e96f40ae10df6e72be4a3867a029d46fb59737a84c12302cfcdc5331d", checked := Tryd.checked }
namespace Rows
def none {H : Type} : Left H := { results := [], args := [] }

/- WHAT THE LISTED PACKAGE-LEVEL VARIABLES READ AS WHEN THE CALL BEGINS. Each datum BY PROGRAM (the guide's laid-datum.mjs) off the statement by which the dump's own 'gosem.cut.vars' lays the variable. In a bare row this is a premise. The card (YtncbbbappadcfaaDoorCards.lean) ties it to the program's text. -/
def laid_testgate_testgatelaw26_pieces {H : Type} : DataW H := .slice [.lit (.string [97]), .lit (.string [103, 111, 116, 32]), .lit (.string [48, 120]), .lit (.string [55]), .lit (.string [100, 101, 97, 100, 98, 101, 101]), .lit (.string [49]), .lit (.string [47]), .lit (.string [120, 46, 103, 111]), .lit (.string [58]), .lit (.string [32]), .lit (.string [9]), .lit (.string [34]), .lit (.string [10]), .lit (.string [45]), .lit (.string [95]), .lit (.string [46]), .lit (.string [105, 110, 116, 51, 50]), .lit (.string [35]), .lit (.string [49, 50]), .lit (.string [195, 169]), .lit (.string [0]), .lit (.string [119, 97, 110, 116]), .lit (.string [48, 88]), .lit (.string [102]), .lit (.string [48, 120, 49, 70]), .lit (.string [13]), .lit (.string [61]), .lit (.string [39])] []

/-- 'testgatelaw26.MessageTwice': WHATEVER THE INPUT: true; the input reads as it did. -/
def messageTwiceSpec : ChangeSpec := { name := "messageTwice", fn := fun _ => fun
  | [d1, d2] => { results := [.lit (.bool true)], args := [d1, d2] }
  | _ => none }
def messageTwiceRow : OpenClaim := { program := "ytncbbbappadcfaadoor", sum := "eedd921e96f40ae10df6e72be4a3867a029d46fb59737a84c12302cfcdc5331d", func := "testgate/testgatelaw26.MessageTwice", spec := "messageTwice", inPlace := ["internal/bytealg.IndexByteString", "internal/bytealg.IndexString", "internal/abi.NoEscape"], named := ["testgate/testgatelaw26.pieces", "internal/bytealg.MaxLen"], apart := false, laid := [("testgate/testgatelaw26.pieces", laid_testgate_testgatelaw26_pieces)] }
def MessageTwiceSaid : Prop := messageTwiceRow.holds Tryd.pinned (OpenSpec.ofChange messageTwiceSpec)

/-- ITS FALSE NEIGHBOUR: 'it returns false'. Refute it at one input. -/
def messageTwiceWrong : ChangeSpec := { name := "messageTwice", fn := fun _ => fun
  | [d1, d2] => { results := [.lit (.bool false)], args := [d1, d2] }
  | _ => none }
def MessageTwiceWrongFalsely : Prop := messageTwiceRow.holds Tryd.pinned (OpenSpec.ofChange messageTwiceWrong)

/-- 'testgatelaw26.MessageLines': WHATEVER THE INPUT: true; the input reads as it did. -/
def messageLinesSpec : ChangeSpec := { name := "messageLines", fn := fun _ => fun
  | [d1, d2] => { results := [.lit (.bool true)], args := [d1, d2] }
  | _ => none }
def messageLinesRow : OpenClaim := { program := "ytncbbbappadcfaadoor", sum := "eedd921e96f40ae10df6e72be4a3867a029d46fb59737a84c12302cfcdc5331d", func := "testgate/testgatelaw26.MessageLines", spec := "messageLines", inPlace := ["internal/bytealg.IndexByteString", "internal/bytealg.IndexString", "internal/abi.NoEscape"], named := ["testgate/testgatelaw26.pieces", "internal/bytealg.MaxLen"], apart := false, laid := [("testgate/testgatelaw26.pieces", laid_testgate_testgatelaw26_pieces)] }
def MessageLinesSaid : Prop := messageLinesRow.holds Tryd.pinned (OpenSpec.ofChange messageLinesSpec)

/-- ITS FALSE NEIGHBOUR: 'it returns false'. Refute it at one input. -/
def messageLinesWrong : ChangeSpec := { name := "messageLines", fn := fun _ => fun
  | [d1, d2] => { results := [.lit (.bool false)], args := [d1, d2] }
  | _ => none }
def MessageLinesWrongFalsely : Prop := messageLinesRow.holds Tryd.pinned (OpenSpec.ofChange messageLinesWrong)

/-- 'testgatelaw26.MessageNormals': WHATEVER THE INPUT: true; the input reads as it did. -/
def messageNormalsSpec : ChangeSpec := { name := "messageNormals", fn := fun _ => fun
  | [d1, d2] => { results := [.lit (.bool true)], args := [d1, d2] }
  | _ => none }
def messageNormalsRow : OpenClaim := { program := "ytncbbbappadcfaadoor", sum := "eedd921e96f40ae10df6e72be4a3867a029d46fb59737a84c12302cfcdc5331d", func := "testgate/testgatelaw26.MessageNormals", spec := "messageNormals", inPlace := ["internal/bytealg.IndexByteString", "internal/bytealg.IndexString", "internal/abi.NoEscape"], named := ["testgate/testgatelaw26.pieces", "internal/bytealg.MaxLen"], apart := false, laid := [("testgate/testgatelaw26.pieces", laid_testgate_testgatelaw26_pieces)] }
def MessageNormalsSaid : Prop := messageNormalsRow.holds Tryd.pinned (OpenSpec.ofChange messageNormalsSpec)

/-- ITS FALSE NEIGHBOUR: 'it returns false'. Refute it at one input. -/
def messageNormalsWrong : ChangeSpec := { name := "messageNormals", fn := fun _ => fun
  | [d1, d2] => { results := [.lit (.bool false)], args := [d1, d2] }
  | _ => none }
def MessageNormalsWrongFalsely : Prop := messageNormalsRow.holds Tryd.pinned (OpenSpec.ofChange messageNormalsWrong)

/-- 'testgatelaw26.MessageSigns': WHATEVER THE INPUT: true; the input reads as it did. -/
def messageSignsSpec : ChangeSpec := { name := "messageSigns", fn := fun _ => fun
  | [d1, d2, d3] => { results := [.lit (.bool true)], args := [d1, d2, d3] }
  | _ => none }
def messageSignsRow : OpenClaim := { program := "ytncbbbappadcfaadoor", sum := "eedd921e96f40ae10df6e72be4a3867a029d46fb59737a84c12302cfcdc5331d", func := "testgate/testgatelaw26.MessageSigns", spec := "messageSigns", inPlace := ["internal/bytealg.IndexByteString", "internal/bytealg.IndexString", "internal/abi.NoEscape", "internal/bytealg.abigen_runtime_cmpstring"], named := ["testgate/testgatelaw26.pieces", "internal/bytealg.MaxLen"], apart := false, laid := [("testgate/testgatelaw26.pieces", laid_testgate_testgatelaw26_pieces)] }
def MessageSignsSaid : Prop := messageSignsRow.holds Tryd.pinned (OpenSpec.ofChange messageSignsSpec)

/-- ITS FALSE NEIGHBOUR: 'it returns false'. Refute it at one input. -/
def messageSignsWrong : ChangeSpec := { name := "messageSigns", fn := fun _ => fun
  | [d1, d2, d3] => { results := [.lit (.bool false)], args := [d1, d2, d3] }
  | _ => none }
def MessageSignsWrongFalsely : Prop := messageSignsRow.holds Tryd.pinned (OpenSpec.ofChange messageSignsWrong)

/- THE SECOND FORM. 'bulk': how many values and letters a reading holds, each counted each time it is reached (what is shared counts as often as it is met; a slice's spare places count too). A statement '..UptoSaid' is the law's where the arguments, and the package variables that the reading takes, are together of bulk at most 1048576: NARROWER than '..Said'. Prove '..Said' where nothing that the law and all that it calls make is longer than what came in: it says more and counts as full. Else prove '..UptoSaid'. A law counts once. -/
mutual
def uptoBulk {H : Type} : DataW H → Nat
  | .lit (.string bytes) => bytes.length + 1
  | .lit _ => 1
  | .nil => 1
  | .ptr d => uptoBulk d + 1
  | .slice elems spare => uptoBulkAll elems + uptoBulkAll spare + 1
  | .agg parts => uptoBulkAll parts + 1
  | .iface _ d => uptoBulk d + 1
  | .map entries => uptoBulkEntries entries + 1
  | .held _ => 1
def uptoBulkAll {H : Type} : List (DataW H) → Nat
  | [] => 0
  | d :: r => uptoBulk d + uptoBulkAll r
def uptoBulkEntries {H : Type} : List (Lit × DataW H) → Nat
  | [] => 0
  | x :: r => uptoBulkEntry x + uptoBulkEntries r
def uptoBulkEntry {H : Type} : Lit × DataW H → Nat
  | (.string bytes, d) => bytes.length + uptoBulk d + 1
  | (_, d) => uptoBulk d + 1
 end
def uptoSmall : (H : Type) → List (DataW H) → Bool := fun _ ds => decide (uptoBulkAll ds ≤ 1048576)
def OpenSpec.upto (s : _root_.Go.ChangeSpec) : _root_.Go.OpenSpec := { _root_.Go.OpenSpec.ofChange s with cond := some uptoSmall }

/-- 'testgatelaw26.MessageTwice', WHERE WHAT IT READS IS OF BULK AT MOST 1048576: true; the input reads as it did. -/
def messageTwiceUptoRow : OpenClaim := { program := "ytncbbbappadcfaadoor", sum := "eedd921e96f40ae10df6e72be4a3867a029d46fb59737a84c12302cfcdc5331d", func := "testgate/testgatelaw26.MessageTwice", spec := "messageTwice", inPlace := ["internal/bytealg.IndexByteString", "internal/bytealg.IndexString", "internal/abi.NoEscape"], named := ["testgate/testgatelaw26.pieces", "internal/bytealg.MaxLen"], apart := false, laid := [("testgate/testgatelaw26.pieces", laid_testgate_testgatelaw26_pieces)], narrowed := true }
def MessageTwiceUptoSaid : Prop := messageTwiceUptoRow.holds Tryd.pinned (OpenSpec.upto messageTwiceSpec)

/-- 'testgatelaw26.MessageLines', WHERE WHAT IT READS IS OF BULK AT MOST 1048576: true; the input reads as it did. -/
def messageLinesUptoRow : OpenClaim := { program := "ytncbbbappadcfaadoor", sum := "eedd921e96f40ae10df6e72be4a3867a029d46fb59737a84c12302cfcdc5331d", func := "testgate/testgatelaw26.MessageLines", spec := "messageLines", inPlace := ["internal/bytealg.IndexByteString", "internal/bytealg.IndexString", "internal/abi.NoEscape"], named := ["testgate/testgatelaw26.pieces", "internal/bytealg.MaxLen"], apart := false, laid := [("testgate/testgatelaw26.pieces", laid_testgate_testgatelaw26_pieces)], narrowed := true }
def MessageLinesUptoSaid : Prop := messageLinesUptoRow.holds Tryd.pinned (OpenSpec.upto messageLinesSpec)

/-- 'testgatelaw26.MessageNormals', WHERE WHAT IT READS IS OF BULK AT MOST 1048576: true; the input reads as it did. -/
def messageNormalsUptoRow : OpenClaim := { program := "ytncbbbappadcfaadoor", sum := "eedd921e96f40ae10df6e72be4a3867a029d46fb59737a84c12302cfcdc5331d", func := "testgate/testgatelaw26.MessageNormals", spec := "messageNormals", inPlace := ["internal/bytealg.IndexByteString", "internal/bytealg.IndexString", "internal/abi.NoEscape"], named := ["testgate/testgatelaw26.pieces", "internal/bytealg.MaxLen"], apart := false, laid := [("testgate/testgatelaw26.pieces", laid_testgate_testgatelaw26_pieces)], narrowed := true }
def MessageNormalsUptoSaid : Prop := messageNormalsUptoRow.holds Tryd.pinned (OpenSpec.upto messageNormalsSpec)

/-- 'testgatelaw26.MessageSigns', WHERE WHAT IT READS IS OF BULK AT MOST 1048576: true; the input reads as it did. -/
def messageSignsUptoRow : OpenClaim := { program := "ytncbbbappadcfaadoor", sum := "eedd921e96f40ae10df6e72be4a3867a029d46fb59737a84c12302cfcdc5331d", func := "testgate/testgatelaw26.MessageSigns", spec := "messageSigns", inPlace := ["internal/bytealg.IndexByteString", "internal/bytealg.IndexString", "internal/abi.NoEscape", "internal/bytealg.abigen_runtime_cmpstring"], named := ["testgate/testgatelaw26.pieces", "internal/bytealg.MaxLen"], apart := false, laid := [("testgate/testgatelaw26.pieces", laid_testgate_testgatelaw26_pieces)], narrowed := true }
def MessageSignsUptoSaid : Prop := messageSignsUptoRow.holds Tryd.pinned (OpenSpec.upto messageSignsSpec)

end Rows
end Go.Proofs.YtncbbbappadcfaaDoor
