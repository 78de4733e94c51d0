/-
  No cell of these rows narrows 'for every input' (looked for: loops, veiled, ifaces, maps, wideKeys, modest, calm, conditions, laid).
  DERIVED. THE GIVEN ROWS OF THIS SEAT. 6 by the template 'for every input the law returns true; each argument reads behind the call as it read before'; 0 by the template 'total and deterministic' (their statements: YtoblkpomikokhaaTotals.lean).
  GIVEN WITH THE SEED: the statements are not yours to turn. If you find one false, say at which input.
  Laid BY PROGRAM, IN A SANDBOX (cutbox-rows.mjs): the forced cells as the released guide's own fill.sh prints them over the translation c51a9e941bdd325e… (all of the seat's roots in one cut). By AI agents, Wed Nov 11 2026. No macro, syntax, notation, axiom, sorry.
-/
import Derived.Test.YtoblkpomikokhaaChecked
import GoSem.Claim
import GoSem.ClaimJoined
import GoSem.ClaimMapViews
import Derived.JoinedTies
import Derived.KernelRfl
namespace Go.Proofs.Ytoblkpomikokhaa
/- THE CELL 'sum', in the pinned program and in every row, IS THE sha256 OF THE DUMP (.gsa) THAT YtoblkpomikokhaaProg.lean LOADS. Nothing in Lean hashes anything: it is a label: what it is worth is what the hold of that sum in a sandbox is worth. -/
noncomputable def Try.pinned : Pinned := { name := "ytoblkpomikokhaa", sum := "c51a9e941bdd325e850a1a57237912e2b8673d05498d91b0fc57eac2066c80d5", checked := Try.checked }
namespace Rows
def none {H : Type} : Left H := { results := [], args := [] }

/-- 'testgatelaw27.GroupKeys': WHATEVER THE INPUT: true; the input reads as it did. -/
def groupKeysSpec : ChangeSpec := { name := "groupKeys", fn := fun _ => fun
  | [d1, d2, d3] => { results := [.lit (.bool true)], args := [d1, d2, d3] }
  | _ => none }
def groupKeysRow : OpenClaim := { program := "ytoblkpomikokhaa", sum := "c51a9e941bdd325e850a1a57237912e2b8673d05498d91b0fc57eac2066c80d5", func := "testgate/testgatelaw27.GroupKeys", spec := "groupKeys", inPlace := ["internal/bytealg.IndexByteString", "internal/bytealg.IndexString", "internal/abi.NoEscape"], unfollowed := true, recurses := true, named := ["internal/bytealg.MaxLen"], apart := false }
def GroupKeysSaid : Prop := groupKeysRow.holds Try.pinned (OpenSpec.ofChange groupKeysSpec)

/-- ITS FALSE NEIGHBOUR: 'it returns false'. Refute it at one input. -/
def groupKeysWrong : ChangeSpec := { name := "groupKeys", fn := fun _ => fun
  | [d1, d2, d3] => { results := [.lit (.bool false)], args := [d1, d2, d3] }
  | _ => none }
def GroupKeysWrongFalsely : Prop := groupKeysRow.holds Try.pinned (OpenSpec.ofChange groupKeysWrong)

/-- 'testgatelaw27.GroupPartition': WHATEVER THE INPUT: true; the input reads as it did. -/
def groupPartitionSpec : ChangeSpec := { name := "groupPartition", fn := fun _ => fun
  | [d1, d2] => { results := [.lit (.bool true)], args := [d1, d2] }
  | _ => none }
def groupPartitionRow : OpenClaim := { program := "ytoblkpomikokhaa", sum := "c51a9e941bdd325e850a1a57237912e2b8673d05498d91b0fc57eac2066c80d5", func := "testgate/testgatelaw27.GroupPartition", spec := "groupPartition", inPlace := ["internal/bytealg.IndexByteString", "internal/bytealg.IndexString", "internal/abi.NoEscape"], unfollowed := true, recurses := true, named := ["internal/bytealg.MaxLen"], apart := false }
def GroupPartitionSaid : Prop := groupPartitionRow.holds Try.pinned (OpenSpec.ofChange groupPartitionSpec)

/-- ITS FALSE NEIGHBOUR: 'it returns false'. Refute it at one input. -/
def groupPartitionWrong : ChangeSpec := { name := "groupPartition", fn := fun _ => fun
  | [d1, d2] => { results := [.lit (.bool false)], args := [d1, d2] }
  | _ => none }
def GroupPartitionWrongFalsely : Prop := groupPartitionRow.holds Try.pinned (OpenSpec.ofChange groupPartitionWrong)

/-- 'testgatelaw27.GroupChains': WHATEVER THE INPUT: true; the input reads as it did. -/
def groupChainsSpec : ChangeSpec := { name := "groupChains", fn := fun _ => fun
  | [d1, d2] => { results := [.lit (.bool true)], args := [d1, d2] }
  | _ => none }
def groupChainsRow : OpenClaim := { program := "ytoblkpomikokhaa", sum := "c51a9e941bdd325e850a1a57237912e2b8673d05498d91b0fc57eac2066c80d5", func := "testgate/testgatelaw27.GroupChains", spec := "groupChains", inPlace := ["internal/bytealg.IndexByteString", "internal/bytealg.IndexString", "internal/abi.NoEscape"], unfollowed := true, recurses := true, named := ["internal/bytealg.MaxLen"], apart := false }
def GroupChainsSaid : Prop := groupChainsRow.holds Try.pinned (OpenSpec.ofChange groupChainsSpec)

/-- ITS FALSE NEIGHBOUR: 'it returns false'. Refute it at one input. -/
def groupChainsWrong : ChangeSpec := { name := "groupChains", fn := fun _ => fun
  | [d1, d2] => { results := [.lit (.bool false)], args := [d1, d2] }
  | _ => none }
def GroupChainsWrongFalsely : Prop := groupChainsRow.holds Try.pinned (OpenSpec.ofChange groupChainsWrong)

/-- 'testgatelaw27.GroupOrder': WHATEVER THE INPUT: true; the input reads as it did. -/
def groupOrderSpec : ChangeSpec := { name := "groupOrder", fn := fun _ => fun
  | [d1, d2, d3] => { results := [.lit (.bool true)], args := [d1, d2, d3] }
  | _ => none }
def groupOrderRow : OpenClaim := { program := "ytoblkpomikokhaa", sum := "c51a9e941bdd325e850a1a57237912e2b8673d05498d91b0fc57eac2066c80d5", func := "testgate/testgatelaw27.GroupOrder", spec := "groupOrder", inPlace := ["internal/bytealg.IndexByteString", "internal/bytealg.IndexString", "internal/abi.NoEscape"], unfollowed := true, recurses := true, named := ["internal/bytealg.MaxLen"], apart := false }
def GroupOrderSaid : Prop := groupOrderRow.holds Try.pinned (OpenSpec.ofChange groupOrderSpec)

/-- ITS FALSE NEIGHBOUR: 'it returns false'. Refute it at one input. -/
def groupOrderWrong : ChangeSpec := { name := "groupOrder", fn := fun _ => fun
  | [d1, d2, d3] => { results := [.lit (.bool false)], args := [d1, d2, d3] }
  | _ => none }
def GroupOrderWrongFalsely : Prop := groupOrderRow.holds Try.pinned (OpenSpec.ofChange groupOrderWrong)

/-- 'testgatelaw27.GroupCoarser': WHATEVER THE INPUT: true; the input reads as it did. -/
def groupCoarserSpec : ChangeSpec := { name := "groupCoarser", fn := fun _ => fun
  | [d1, d2] => { results := [.lit (.bool true)], args := [d1, d2] }
  | _ => none }
def groupCoarserRow : OpenClaim := { program := "ytoblkpomikokhaa", sum := "c51a9e941bdd325e850a1a57237912e2b8673d05498d91b0fc57eac2066c80d5", func := "testgate/testgatelaw27.GroupCoarser", spec := "groupCoarser", inPlace := ["internal/bytealg.IndexByteString", "internal/bytealg.IndexString", "internal/abi.NoEscape"], unfollowed := true, recurses := true, named := ["internal/bytealg.MaxLen"], apart := false }
def GroupCoarserSaid : Prop := groupCoarserRow.holds Try.pinned (OpenSpec.ofChange groupCoarserSpec)

/-- ITS FALSE NEIGHBOUR: 'it returns false'. Refute it at one input. -/
def groupCoarserWrong : ChangeSpec := { name := "groupCoarser", fn := fun _ => fun
  | [d1, d2] => { results := [.lit (.bool false)], args := [d1, d2] }
  | _ => none }
def GroupCoarserWrongFalsely : Prop := groupCoarserRow.holds Try.pinned (OpenSpec.ofChange groupCoarserWrong)

/-- 'testgatelaw27.GroupSplits': WHATEVER THE INPUT: true; the input reads as it did. -/
def groupSplitsSpec : ChangeSpec := { name := "groupSplits", fn := fun _ => fun
  | [d1, d2, d3] => { results := [.lit (.bool true)], args := [d1, d2, d3] }
  | _ => none }
def groupSplitsRow : OpenClaim := { program := "ytoblkpomikokhaa", sum := "c51a9e941bdd325e850a1a57237912e2b8673d05498d91b0fc57eac2066c80d5", func := "testgate/testgatelaw27.GroupSplits", spec := "groupSplits", inPlace := ["internal/bytealg.IndexByteString", "internal/bytealg.IndexString", "internal/abi.NoEscape", "internal/bytealg.abigen_runtime_cmpstring"], unfollowed := true, recurses := true, named := ["internal/bytealg.MaxLen"], apart := false }
def GroupSplitsSaid : Prop := groupSplitsRow.holds Try.pinned (OpenSpec.ofChange groupSplitsSpec)

/-- ITS FALSE NEIGHBOUR: 'it returns false'. Refute it at one input. -/
def groupSplitsWrong : ChangeSpec := { name := "groupSplits", fn := fun _ => fun
  | [d1, d2, d3] => { results := [.lit (.bool false)], args := [d1, d2, d3] }
  | _ => none }
def GroupSplitsWrongFalsely : Prop := groupSplitsRow.holds Try.pinned (OpenSpec.ofChange groupSplitsWrong)

/- THE SECOND FORM. 'bulk': how many values and letters a reading holds, each counted each time it is reached (what is shared counts as often as it is met; a slice's spare places count too). A statement '..UptoSaid' is the law's where the arguments, and the package variables that the reading takes, are together of bulk at most 1048576: NARROWER than '..Said'. Prove '..Said' where nothing that the law and all that it calls make is longer than what came in: it says more and counts as full. Else prove '..UptoSaid'. A law counts once. -/
mutual
def uptoBulk {H : Type} : DataW H → Nat
  | .lit (.string bytes) => bytes.length + 1
  | .lit _ => 1
  | .nil => 1
  | .ptr d => uptoBulk d + 1
  | .slice elems spare => uptoBulkAll elems + uptoBulkAll spare + 1
  | .agg parts => uptoBulkAll parts + 1
  | .iface _ d => uptoBulk d + 1
  | .map entries => uptoBulkEntries entries + 1
  | .held _ => 1
def uptoBulkAll {H : Type} : List (DataW H) → Nat
  | [] => 0
  | d :: r => uptoBulk d + uptoBulkAll r
def uptoBulkEntries {H : Type} : List (Lit × DataW H) → Nat
  | [] => 0
  | x :: r => uptoBulkEntry x + uptoBulkEntries r
def uptoBulkEntry {H : Type} : Lit × DataW H → Nat
  | (.string bytes, d) => bytes.length + uptoBulk d + 1
  | (_, d) => uptoBulk d + 1
 end
def uptoSmall : (H : Type) → List (DataW H) → Bool := fun _ ds => decide (uptoBulkAll ds ≤ 1048576)
def OpenSpec.upto (s : _root_.Go.ChangeSpec) : _root_.Go.OpenSpec := { _root_.Go.OpenSpec.ofChange s with cond := some uptoSmall }

/-- 'testgatelaw27.GroupKeys', WHERE WHAT IT READS IS OF BULK AT MOST 1048576: true; the input reads as it did. -/
def groupKeysUptoRow : OpenClaim := { program := "ytoblkpomikokhaa", sum := "c51a9e941bdd325e850a1a57237912e2b8673d05498d91b0fc57eac2066c80d5", func := "testgate/testgatelaw27.GroupKeys", spec := "groupKeys", inPlace := ["internal/bytealg.IndexByteString", "internal/bytealg.IndexString", "internal/abi.NoEscape"], unfollowed := true, recurses := true, named := ["internal/bytealg.MaxLen"], apart := false, narrowed := true }
def GroupKeysUptoSaid : Prop := groupKeysUptoRow.holds Try.pinned (OpenSpec.upto groupKeysSpec)

/-- 'testgatelaw27.GroupPartition', WHERE WHAT IT READS IS OF BULK AT MOST 1048576: true; the input reads as it did. -/
def groupPartitionUptoRow : OpenClaim := { program := "ytoblkpomikokhaa", sum := "c51a9e941bdd325e850a1a57237912e2b8673d05498d91b0fc57eac2066c80d5", func := "testgate/testgatelaw27.GroupPartition", spec := "groupPartition", inPlace := ["internal/bytealg.IndexByteString", "internal/bytealg.IndexString", "internal/abi.NoEscape"], unfollowed := true, recurses := true, named := ["internal/bytealg.MaxLen"], apart := false, narrowed := true }
def GroupPartitionUptoSaid : Prop := groupPartitionUptoRow.holds Try.pinned (OpenSpec.upto groupPartitionSpec)

/-- 'testgatelaw27.GroupChains', WHERE WHAT IT READS IS OF BULK AT MOST 1048576: true; the input reads as it did. -/
def groupChainsUptoRow : OpenClaim := { program := "ytoblkpomikokhaa", sum := "c51a9e941bdd325e850a1a57237912e2b8673d05498d91b0fc57eac2066c80d5", func := "testgate/testgatelaw27.GroupChains", spec := "groupChains", inPlace := ["internal/bytealg.IndexByteString", "internal/bytealg.IndexString", "internal/abi.NoEscape"], unfollowed := true, recurses := true, named := ["internal/bytealg.MaxLen"], apart := false, narrowed := true }
def GroupChainsUptoSaid : Prop := groupChainsUptoRow.holds Try.pinned (OpenSpec.upto groupChainsSpec)

/-- 'testgatelaw27.GroupOrder', WHERE WHAT IT READS IS OF BULK AT MOST 1048576: true; the input reads as it did. -/
def groupOrderUptoRow : OpenClaim := { program := "ytoblkpomikokhaa", sum := "c51a9e941bdd325e850a1a57237912e2b8673d05498d91b0fc57eac2066c80d5", func := "testgate/testgatelaw27.GroupOrder", spec := "groupOrder", inPlace := ["internal/bytealg.IndexByteString", "internal/bytealg.IndexString", "internal/abi.NoEscape"], unfollowed := true, recurses := true, named := ["internal/bytealg.MaxLen"], apart := false, narrowed := true }
def GroupOrderUptoSaid : Prop := groupOrderUptoRow.holds Try.pinned (OpenSpec.upto groupOrderSpec)

/-- 'testgatelaw27.GroupCoarser', WHERE WHAT IT READS IS OF BULK AT MOST 1048576: true; the input reads as it did. -/
def groupCoarserUptoRow : OpenClaim := { program := "ytoblkpomikokhaa", sum := "c51a9e941bdd325e850a1a57237912e2b8673d05498d91b0fc57eac2066c80d5", func := "testgate/testgatelaw27.GroupCoarser", spec := "groupCoarser", inPlace := ["internal/bytealg.IndexByteString", "internal/bytealg.IndexString", "internal/abi.NoEscape"], unfollowed := true, recurses := true, named := ["internal/bytealg.MaxLen"], apart := false, narrowed := true }
def GroupCoarserUptoSaid : Prop := groupCoarserUptoRow.holds Try.pinned (OpenSpec.upto groupCoarserSpec)

/-- 'testgatelaw27.GroupSplits', WHERE WHAT IT READS IS OF BULK AT MOST 1048576: true; the input reads as it did. -/
def groupSplitsUptoRow : OpenClaim := { program := "ytoblkpomikokhaa", sum := "c51a9e941bdd325e850a1a57237912e2b8673d05498d91b0fc57eac2066c80d5", func := "testgate/testgatelaw27.GroupSplits", spec := "groupSplits", inPlace := ["internal/bytealg.IndexByteString", "internal/bytealg.IndexString", "internal/abi.NoEscape", "internal/bytealg.abigen_runtime_cmpstring"], unfollowed := true, recurses := true, named := ["internal/bytealg.MaxLen"], apart := false, narrowed := true }
def GroupSplitsUptoSaid : Prop := groupSplitsUptoRow.holds Try.pinned (OpenSpec.upto groupSplitsSpec)

end Rows
end Go.Proofs.Ytoblkpomikokhaa
