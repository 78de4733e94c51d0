/-
  No cell of these rows narrows 'for every input' (looked for: loops, veiled, ifaces, maps, wideKeys, modest, calm, conditions, laid).
  DERIVED. THE GIVEN ROWS OF THIS SEAT. 5 by the template 'for every input the law returns true; each argument reads behind the call as it read before'; 0 by the template 'total and deterministic' (their statements: YtncbbbappadcfaaTotals.lean).
  GIVEN WITH THE SEED: the statements are not yours to turn. If you find one false, say at which input.
  Laid BY PROGRAM, IN A SANDBOX (cutbox-rows.mjs): the forced cells as the released guide's own fill.sh prints them over the translation bf5d131ef578db5d… (all of the seat's roots in one cut). By AI agents, Wed Nov 11 2026. No macro, syntax, notation, axiom, sorry.
-/
import Derived.Test.YtncbbbappadcfaaChecked
import GoSem.Claim
import GoSem.ClaimJoined
import GoSem.ClaimMapViews
import Derived.JoinedTies
import Derived.KernelRfl
namespace Go.Proofs.Ytncbbbappadcfaa
/- THE CELL 'sum', in the pinned program and in every row, IS THE sha256 OF THE DUMP (.gsa) THAT YtncbbbappadcfaaProg.lean LOADS. Nothing in Lean hashes anything: it is a label: what it is worth is what the hold of that sum in a sandbox is worth. -/
noncomputable def Try.pinned : Pinned := { name := "ytncbbbappadcfaa", sum := "bf5d131ef578db5d895de63d39d123c22e298191c3860bad815a9b1d3d49c9c7", checked := Try.checked }
namespace Rows
def none {H : Type} : Left H := { results := [], args := [] }

/-- 'testgatelaw26.MessageNumbers': WHATEVER THE INPUT: true; the input reads as it did. -/
def messageNumbersSpec : ChangeSpec := { name := "messageNumbers", fn := fun _ => fun
  | [d1, d2] => { results := [.lit (.bool true)], args := [d1, d2] }
  | _ => none }
def messageNumbersRow : OpenClaim := { program := "ytncbbbappadcfaa", sum := "bf5d131ef578db5d895de63d39d123c22e298191c3860bad815a9b1d3d49c9c7", func := "testgate/testgatelaw26.MessageNumbers", spec := "messageNumbers", inPlace := ["internal/bytealg.IndexByteString", "internal/bytealg.IndexString", "internal/abi.NoEscape"], named := ["internal/bytealg.MaxLen"], apart := false }
def MessageNumbersSaid : Prop := messageNumbersRow.holds Try.pinned (OpenSpec.ofChange messageNumbersSpec)

/-- ITS FALSE NEIGHBOUR: 'it returns false'. Refute it at one input. -/
def messageNumbersWrong : ChangeSpec := { name := "messageNumbers", fn := fun _ => fun
  | [d1, d2] => { results := [.lit (.bool false)], args := [d1, d2] }
  | _ => none }
def MessageNumbersWrongFalsely : Prop := messageNumbersRow.holds Try.pinned (OpenSpec.ofChange messageNumbersWrong)

/-- 'testgatelaw26.MessageSquares': WHATEVER THE INPUT: true; the input reads as it did. -/
def messageSquaresSpec : ChangeSpec := { name := "messageSquares", fn := fun _ => fun
  | [d] => { results := [.lit (.bool true)], args := [d] }
  | _ => none }
def messageSquaresRow : OpenClaim := { program := "ytncbbbappadcfaa", sum := "bf5d131ef578db5d895de63d39d123c22e298191c3860bad815a9b1d3d49c9c7", func := "testgate/testgatelaw26.MessageSquares", spec := "messageSquares", inPlace := ["internal/bytealg.IndexByteString", "internal/bytealg.IndexString", "internal/abi.NoEscape"], named := ["internal/bytealg.MaxLen"], apart := false }
def MessageSquaresSaid : Prop := messageSquaresRow.holds Try.pinned (OpenSpec.ofChange messageSquaresSpec)

/-- ITS FALSE NEIGHBOUR: 'it returns false'. Refute it at one input. -/
def messageSquaresWrong : ChangeSpec := { name := "messageSquares", fn := fun _ => fun
  | [d] => { results := [.lit (.bool false)], args := [d] }
  | _ => none }
def MessageSquaresWrongFalsely : Prop := messageSquaresRow.holds Try.pinned (OpenSpec.ofChange messageSquaresWrong)

/-- 'testgatelaw26.MessageRecursion': WHATEVER THE INPUT: true; the input reads as it did. -/
def messageRecursionSpec : ChangeSpec := { name := "messageRecursion", fn := fun _ => fun
  | [d1, d2, d3] => { results := [.lit (.bool true)], args := [d1, d2, d3] }
  | _ => none }
def messageRecursionRow : OpenClaim := { program := "ytncbbbappadcfaa", sum := "bf5d131ef578db5d895de63d39d123c22e298191c3860bad815a9b1d3d49c9c7", func := "testgate/testgatelaw26.MessageRecursion", spec := "messageRecursion", inPlace := ["internal/bytealg.IndexByteString", "internal/bytealg.IndexString", "internal/abi.NoEscape"], named := ["internal/bytealg.MaxLen"], apart := false }
def MessageRecursionSaid : Prop := messageRecursionRow.holds Try.pinned (OpenSpec.ofChange messageRecursionSpec)

/-- ITS FALSE NEIGHBOUR: 'it returns false'. Refute it at one input. -/
def messageRecursionWrong : ChangeSpec := { name := "messageRecursion", fn := fun _ => fun
  | [d1, d2, d3] => { results := [.lit (.bool false)], args := [d1, d2, d3] }
  | _ => none }
def MessageRecursionWrongFalsely : Prop := messageRecursionRow.holds Try.pinned (OpenSpec.ofChange messageRecursionWrong)

/-- 'testgatelaw26.MessageOrder': WHATEVER THE INPUT: true; the input reads as it did. -/
def messageOrderSpec : ChangeSpec := { name := "messageOrder", fn := fun _ => fun
  | [d1, d2] => { results := [.lit (.bool true)], args := [d1, d2] }
  | _ => none }
def messageOrderRow : OpenClaim := { program := "ytncbbbappadcfaa", sum := "bf5d131ef578db5d895de63d39d123c22e298191c3860bad815a9b1d3d49c9c7", func := "testgate/testgatelaw26.MessageOrder", spec := "messageOrder", inPlace := ["internal/bytealg.IndexByteString", "internal/bytealg.IndexString", "internal/abi.NoEscape", "internal/bytealg.abigen_runtime_cmpstring"], named := ["internal/bytealg.MaxLen"], apart := false }
def MessageOrderSaid : Prop := messageOrderRow.holds Try.pinned (OpenSpec.ofChange messageOrderSpec)

/-- ITS FALSE NEIGHBOUR: 'it returns false'. Refute it at one input. -/
def messageOrderWrong : ChangeSpec := { name := "messageOrder", fn := fun _ => fun
  | [d1, d2] => { results := [.lit (.bool false)], args := [d1, d2] }
  | _ => none }
def MessageOrderWrongFalsely : Prop := messageOrderRow.holds Try.pinned (OpenSpec.ofChange messageOrderWrong)

/-- 'testgatelaw26.MessageFolds': WHATEVER THE INPUT: true; the input reads as it did. -/
def messageFoldsSpec : ChangeSpec := { name := "messageFolds", fn := fun _ => fun
  | [d1, d2, d3] => { results := [.lit (.bool true)], args := [d1, d2, d3] }
  | _ => none }
def messageFoldsRow : OpenClaim := { program := "ytncbbbappadcfaa", sum := "bf5d131ef578db5d895de63d39d123c22e298191c3860bad815a9b1d3d49c9c7", func := "testgate/testgatelaw26.MessageFolds", spec := "messageFolds", inPlace := ["internal/bytealg.IndexByteString", "internal/bytealg.IndexString", "internal/abi.NoEscape"], named := ["internal/bytealg.MaxLen"], apart := false }
def MessageFoldsSaid : Prop := messageFoldsRow.holds Try.pinned (OpenSpec.ofChange messageFoldsSpec)

/-- ITS FALSE NEIGHBOUR: 'it returns false'. Refute it at one input. -/
def messageFoldsWrong : ChangeSpec := { name := "messageFolds", fn := fun _ => fun
  | [d1, d2, d3] => { results := [.lit (.bool false)], args := [d1, d2, d3] }
  | _ => none }
def MessageFoldsWrongFalsely : Prop := messageFoldsRow.holds Try.pinned (OpenSpec.ofChange messageFoldsWrong)

/- THE SECOND FORM. 'bulk': how many values and letters a reading holds, each counted each time it is reached (what is shared counts as often as it is met; a slice's spare places count too). A statement '..UptoSaid' is the law's where the arguments, and the package variables that the reading takes, are together of bulk at most 1048576: NARROWER than '..Said'. Prove '..Said' where nothing that the law and all that it calls make is longer than what came in: it says more and counts as full. Else prove '..UptoSaid'. A law counts once. -/
mutual
def uptoBulk {H : Type} : DataW H → Nat
  | .lit (.string bytes) => bytes.length + 1
  | .lit _ => 1
  | .nil => 1
  | .ptr d => uptoBulk d + 1
  | .slice elems spare => uptoBulkAll elems + uptoBulkAll spare + 1
  | .agg parts => uptoBulkAll parts + 1
  | .iface _ d => uptoBulk d + 1
  | .map entries => uptoBulkEntries entries + 1
  | .held _ => 1
def uptoBulkAll {H : Type} : List (DataW H) → Nat
  | [] => 0
  | d :: r => uptoBulk d + uptoBulkAll r
def uptoBulkEntries {H : Type} : List (Lit × DataW H) → Nat
  | [] => 0
  | x :: r => uptoBulkEntry x + uptoBulkEntries r
def uptoBulkEntry {H : Type} : Lit × DataW H → Nat
  | (.string bytes, d) => bytes.length + uptoBulk d + 1
  | (_, d) => uptoBulk d + 1
 end
def uptoSmall : (H : Type) → List (DataW H) → Bool := fun _ ds => decide (uptoBulkAll ds ≤ 1048576)
def OpenSpec.upto (s : _root_.Go.ChangeSpec) : _root_.Go.OpenSpec := { _root_.Go.OpenSpec.ofChange s with cond := some uptoSmall }

/-- 'testgatelaw26.MessageNumbers', WHERE WHAT IT READS IS OF BULK AT MOST 1048576: true; the input reads as it did. -/
def messageNumbersUptoRow : OpenClaim := { program := "ytncbbbappadcfaa", sum := "bf5d131ef578db5d895de63d39d123c22e298191c3860bad815a9b1d3d49c9c7", func := "testgate/testgatelaw26.MessageNumbers", spec := "messageNumbers", inPlace := ["internal/bytealg.IndexByteString", "internal/bytealg.IndexString", "internal/abi.NoEscape"], named := ["internal/bytealg.MaxLen"], apart := false, narrowed := true }
def MessageNumbersUptoSaid : Prop := messageNumbersUptoRow.holds Try.pinned (OpenSpec.upto messageNumbersSpec)

/-- 'testgatelaw26.MessageSquares', WHERE WHAT IT READS IS OF BULK AT MOST 1048576: true; the input reads as it did. -/
def messageSquaresUptoRow : OpenClaim := { program := "ytncbbbappadcfaa", sum := "bf5d131ef578db5d895de63d39d123c22e298191c3860bad815a9b1d3d49c9c7", func := "testgate/testgatelaw26.MessageSquares", spec := "messageSquares", inPlace := ["internal/bytealg.IndexByteString", "internal/bytealg.IndexString", "internal/abi.NoEscape"], named := ["internal/bytealg.MaxLen"], apart := false, narrowed := true }
def MessageSquaresUptoSaid : Prop := messageSquaresUptoRow.holds Try.pinned (OpenSpec.upto messageSquaresSpec)

/-- 'testgatelaw26.MessageRecursion', WHERE WHAT IT READS IS OF BULK AT MOST 1048576: true; the input reads as it did. -/
def messageRecursionUptoRow : OpenClaim := { program := "ytncbbbappadcfaa", sum := "bf5d131ef578db5d895de63d39d123c22e298191c3860bad815a9b1d3d49c9c7", func := "testgate/testgatelaw26.MessageRecursion", spec := "messageRecursion", inPlace := ["internal/bytealg.IndexByteString", "internal/bytealg.IndexString", "internal/abi.NoEscape"], named := ["internal/bytealg.MaxLen"], apart := false, narrowed := true }
def MessageRecursionUptoSaid : Prop := messageRecursionUptoRow.holds Try.pinned (OpenSpec.upto messageRecursionSpec)

/-- 'testgatelaw26.MessageOrder', WHERE WHAT IT READS IS OF BULK AT MOST 1048576: true; the input reads as it did. -/
def messageOrderUptoRow : OpenClaim := { program := "ytncbbbappadcfaa", sum := "bf5d131ef578db5d895de63d39d123c22e298191c3860bad815a9b1d3d49c9c7", func := "testgate/testgatelaw26.MessageOrder", spec := "messageOrder", inPlace := ["internal/bytealg.IndexByteString", "internal/bytealg.IndexString", "internal/abi.NoEscape", "internal/bytealg.abigen_runtime_cmpstring"], named := ["internal/bytealg.MaxLen"], apart := false, narrowed := true }
def MessageOrderUptoSaid : Prop := messageOrderUptoRow.holds Try.pinned (OpenSpec.upto messageOrderSpec)

/-- 'testgatelaw26.MessageFolds', WHERE WHAT IT READS IS OF BULK AT MOST 1048576: true; the input reads as it did. -/
def messageFoldsUptoRow : OpenClaim := { program := "ytncbbbappadcfaa", sum := "bf5d131ef578db5d895de63d39d123c22e298191c3860bad815a9b1d3d49c9c7", func := "testgate/testgatelaw26.MessageFolds", spec := "messageFolds", inPlace := ["internal/bytealg.IndexByteString", "internal/bytealg.IndexString", "internal/abi.NoEscape"], named := ["internal/bytealg.MaxLen"], apart := false, narrowed := true }
def MessageFoldsUptoSaid : Prop := messageFoldsUptoRow.holds Try.pinned (OpenSpec.upto messageFoldsSpec)

end Rows
end Go.Proofs.Ytncbbbappadcfaa
