/-
  No cell of these rows narrows 'for every input' (looked for: loops, veiled, ifaces, maps, wideKeys, modest, calm, conditions, laid).
  DERIVED. THE GIVEN ROWS OF THIS SEAT. 8 by the template 'for every input the law returns true; each argument reads behind the call as it read before'; 0 by the template 'total and deterministic' (their statements: YtgkfmlgfmcpebaaTotals.lean).
  GIVEN WITH THE SEED: the statements are not yours to turn. If you find one false, say at which input.
  Laid BY PROGRAM, IN A SANDBOX (cutbox-rows.mjs): the forced cells as the released guide's own fill.sh prints them over the translation 7986647459cff4d0… (all of the seat's roots in one cut). By AI agents, Wed Nov 11 2026. No macro, syntax, notation, axiom, sorry.
-/
import Derived.Test.YtgkfmlgfmcpebaaChecked
import GoSem.Claim
import GoSem.ClaimJoined
import GoSem.ClaimMapViews
import Derived.JoinedTies
import Derived.KernelRfl
namespace Go.Proofs.Ytgkfmlgfmcpebaa
/- THE CELL 'sum', in the pinned program and in every row, IS THE sha256 OF THE DUMP (.gsa) THAT YtgkfmlgfmcpebaaProg.lean LOADS. Nothing in Lean hashes anything: it is a label: what it is worth is what the hold of that sum in a sandbox is worth. -/
noncomputable def Try.pinned : Pinned := { name := "ytgkfmlgfmcpebaa", sum := "7986647459cff4d0d60fe9f177d1419883bbb8a7a7f738edf20f17bdedb7a637", checked := Try.checked }
namespace Rows
def none {H : Type} : Left H := { results := [], args := [] }

/-- 'testgatelaw30.ShardDivides': WHATEVER THE INPUT: true; the input reads as it did. -/
def shardDividesSpec : ChangeSpec := { name := "shardDivides", fn := fun _ => fun
  | [d1, d2] => { results := [.lit (.bool true)], args := [d1, d2] }
  | _ => none }
def shardDividesRow : OpenClaim := { program := "ytgkfmlgfmcpebaa", sum := "7986647459cff4d0d60fe9f177d1419883bbb8a7a7f738edf20f17bdedb7a637", func := "testgate/testgatelaw30.ShardDivides", spec := "shardDivides", unfollowed := true, recurses := true, apart := false }
def ShardDividesSaid : Prop := shardDividesRow.holds Try.pinned (OpenSpec.ofChange shardDividesSpec)

/-- ITS FALSE NEIGHBOUR: 'it returns false'. Refute it at one input. -/
def shardDividesWrong : ChangeSpec := { name := "shardDivides", fn := fun _ => fun
  | [d1, d2] => { results := [.lit (.bool false)], args := [d1, d2] }
  | _ => none }
def ShardDividesWrongFalsely : Prop := shardDividesRow.holds Try.pinned (OpenSpec.ofChange shardDividesWrong)

/-- 'testgatelaw30.ShardEnds': WHATEVER THE INPUT: true; the input reads as it did. -/
def shardEndsSpec : ChangeSpec := { name := "shardEnds", fn := fun _ => fun
  | [d1, d2] => { results := [.lit (.bool true)], args := [d1, d2] }
  | _ => none }
def shardEndsRow : OpenClaim := { program := "ytgkfmlgfmcpebaa", sum := "7986647459cff4d0d60fe9f177d1419883bbb8a7a7f738edf20f17bdedb7a637", func := "testgate/testgatelaw30.ShardEnds", spec := "shardEnds", unfollowed := true, recurses := true, apart := false }
def ShardEndsSaid : Prop := shardEndsRow.holds Try.pinned (OpenSpec.ofChange shardEndsSpec)

/-- ITS FALSE NEIGHBOUR: 'it returns false'. Refute it at one input. -/
def shardEndsWrong : ChangeSpec := { name := "shardEnds", fn := fun _ => fun
  | [d1, d2] => { results := [.lit (.bool false)], args := [d1, d2] }
  | _ => none }
def ShardEndsWrongFalsely : Prop := shardEndsRow.holds Try.pinned (OpenSpec.ofChange shardEndsWrong)

/-- 'testgatelaw30.ShardBest': WHATEVER THE INPUT: true; the input reads as it did. -/
def shardBestSpec : ChangeSpec := { name := "shardBest", fn := fun _ => fun
  | [d1, d2] => { results := [.lit (.bool true)], args := [d1, d2] }
  | _ => none }
def shardBestRow : OpenClaim := { program := "ytgkfmlgfmcpebaa", sum := "7986647459cff4d0d60fe9f177d1419883bbb8a7a7f738edf20f17bdedb7a637", func := "testgate/testgatelaw30.ShardBest", spec := "shardBest", unfollowed := true, recurses := true, apart := false }
def ShardBestSaid : Prop := shardBestRow.holds Try.pinned (OpenSpec.ofChange shardBestSpec)

/-- ITS FALSE NEIGHBOUR: 'it returns false'. Refute it at one input. -/
def shardBestWrong : ChangeSpec := { name := "shardBest", fn := fun _ => fun
  | [d1, d2] => { results := [.lit (.bool false)], args := [d1, d2] }
  | _ => none }
def ShardBestWrongFalsely : Prop := shardBestRow.holds Try.pinned (OpenSpec.ofChange shardBestWrong)

/-- 'testgatelaw30.ShardNear': WHATEVER THE INPUT: true; the input reads as it did. -/
def shardNearSpec : ChangeSpec := { name := "shardNear", fn := fun _ => fun
  | [d1, d2] => { results := [.lit (.bool true)], args := [d1, d2] }
  | _ => none }
def shardNearRow : OpenClaim := { program := "ytgkfmlgfmcpebaa", sum := "7986647459cff4d0d60fe9f177d1419883bbb8a7a7f738edf20f17bdedb7a637", func := "testgate/testgatelaw30.ShardNear", spec := "shardNear", unfollowed := true, recurses := true, apart := false }
def ShardNearSaid : Prop := shardNearRow.holds Try.pinned (OpenSpec.ofChange shardNearSpec)

/-- ITS FALSE NEIGHBOUR: 'it returns false'. Refute it at one input. -/
def shardNearWrong : ChangeSpec := { name := "shardNear", fn := fun _ => fun
  | [d1, d2] => { results := [.lit (.bool false)], args := [d1, d2] }
  | _ => none }
def ShardNearWrongFalsely : Prop := shardNearRow.holds Try.pinned (OpenSpec.ofChange shardNearWrong)

/-- 'testgatelaw30.ShardBounds': WHATEVER THE INPUT: true; the input reads as it did. -/
def shardBoundsSpec : ChangeSpec := { name := "shardBounds", fn := fun _ => fun
  | [d1, d2] => { results := [.lit (.bool true)], args := [d1, d2] }
  | _ => none }
def shardBoundsRow : OpenClaim := { program := "ytgkfmlgfmcpebaa", sum := "7986647459cff4d0d60fe9f177d1419883bbb8a7a7f738edf20f17bdedb7a637", func := "testgate/testgatelaw30.ShardBounds", spec := "shardBounds", unfollowed := true, recurses := true, apart := false }
def ShardBoundsSaid : Prop := shardBoundsRow.holds Try.pinned (OpenSpec.ofChange shardBoundsSpec)

/-- ITS FALSE NEIGHBOUR: 'it returns false'. Refute it at one input. -/
def shardBoundsWrong : ChangeSpec := { name := "shardBounds", fn := fun _ => fun
  | [d1, d2] => { results := [.lit (.bool false)], args := [d1, d2] }
  | _ => none }
def ShardBoundsWrongFalsely : Prop := shardBoundsRow.holds Try.pinned (OpenSpec.ofChange shardBoundsWrong)

/-- 'testgatelaw30.ShardChecks': WHATEVER THE INPUT: true; the input reads as it did. -/
def shardChecksSpec : ChangeSpec := { name := "shardChecks", fn := fun _ => fun
  | [d1, d2, d3, d4] => { results := [.lit (.bool true)], args := [d1, d2, d3, d4] }
  | _ => none }
def shardChecksRow : OpenClaim := { program := "ytgkfmlgfmcpebaa", sum := "7986647459cff4d0d60fe9f177d1419883bbb8a7a7f738edf20f17bdedb7a637", func := "testgate/testgatelaw30.ShardChecks", spec := "shardChecks", unfollowed := true, recurses := true, apart := false }
def ShardChecksSaid : Prop := shardChecksRow.holds Try.pinned (OpenSpec.ofChange shardChecksSpec)

/-- ITS FALSE NEIGHBOUR: 'it returns false'. Refute it at one input. -/
def shardChecksWrong : ChangeSpec := { name := "shardChecks", fn := fun _ => fun
  | [d1, d2, d3, d4] => { results := [.lit (.bool false)], args := [d1, d2, d3, d4] }
  | _ => none }
def ShardChecksWrongFalsely : Prop := shardChecksRow.holds Try.pinned (OpenSpec.ofChange shardChecksWrong)

/-- 'testgatelaw30.ShardAssigns': WHATEVER THE INPUT: true; the input reads as it did. -/
def shardAssignsSpec : ChangeSpec := { name := "shardAssigns", fn := fun _ => fun
  | [d] => { results := [.lit (.bool true)], args := [d] }
  | _ => none }
def shardAssignsRow : OpenClaim := { program := "ytgkfmlgfmcpebaa", sum := "7986647459cff4d0d60fe9f177d1419883bbb8a7a7f738edf20f17bdedb7a637", func := "testgate/testgatelaw30.ShardAssigns", spec := "shardAssigns", unfollowed := true, recurses := true, apart := false }
def ShardAssignsSaid : Prop := shardAssignsRow.holds Try.pinned (OpenSpec.ofChange shardAssignsSpec)

/-- ITS FALSE NEIGHBOUR: 'it returns false'. Refute it at one input. -/
def shardAssignsWrong : ChangeSpec := { name := "shardAssigns", fn := fun _ => fun
  | [d] => { results := [.lit (.bool false)], args := [d] }
  | _ => none }
def ShardAssignsWrongFalsely : Prop := shardAssignsRow.holds Try.pinned (OpenSpec.ofChange shardAssignsWrong)

/-- 'testgatelaw30.ShardFree': WHATEVER THE INPUT: true; the input reads as it did. -/
def shardFreeSpec : ChangeSpec := { name := "shardFree", fn := fun _ => fun
  | [d1, d2] => { results := [.lit (.bool true)], args := [d1, d2] }
  | _ => none }
def shardFreeRow : OpenClaim := { program := "ytgkfmlgfmcpebaa", sum := "7986647459cff4d0d60fe9f177d1419883bbb8a7a7f738edf20f17bdedb7a637", func := "testgate/testgatelaw30.ShardFree", spec := "shardFree", unfollowed := true, recurses := true, apart := false }
def ShardFreeSaid : Prop := shardFreeRow.holds Try.pinned (OpenSpec.ofChange shardFreeSpec)

/-- ITS FALSE NEIGHBOUR: 'it returns false'. Refute it at one input. -/
def shardFreeWrong : ChangeSpec := { name := "shardFree", fn := fun _ => fun
  | [d1, d2] => { results := [.lit (.bool false)], args := [d1, d2] }
  | _ => none }
def ShardFreeWrongFalsely : Prop := shardFreeRow.holds Try.pinned (OpenSpec.ofChange shardFreeWrong)

/- THE SECOND FORM. 'bulk': how many values and letters a reading holds, each counted each time it is reached (what is shared counts as often as it is met; a slice's spare places count too). A statement '..UptoSaid' is the law's where the arguments, and the package variables that the reading takes, are together of bulk at most 1048576: NARROWER than '..Said'. Prove '..Said' where nothing that the law and all that it calls make is longer than what came in: it says more and counts as full. Else prove '..UptoSaid'. A law counts once. -/
mutual
def uptoBulk {H : Type} : DataW H → Nat
  | .lit (.string bytes) => bytes.length + 1
  | .lit _ => 1
  | .nil => 1
  | .ptr d => uptoBulk d + 1
  | .slice elems spare => uptoBulkAll elems + uptoBulkAll spare + 1
  | .agg parts => uptoBulkAll parts + 1
  | .iface _ d => uptoBulk d + 1
  | .map entries => uptoBulkEntries entries + 1
  | .held _ => 1
def uptoBulkAll {H : Type} : List (DataW H) → Nat
  | [] => 0
  | d :: r => uptoBulk d + uptoBulkAll r
def uptoBulkEntries {H : Type} : List (Lit × DataW H) → Nat
  | [] => 0
  | x :: r => uptoBulkEntry x + uptoBulkEntries r
def uptoBulkEntry {H : Type} : Lit × DataW H → Nat
  | (.string bytes, d) => bytes.length + uptoBulk d + 1
  | (_, d) => uptoBulk d + 1
 end
def uptoSmall : (H : Type) → List (DataW H) → Bool := fun _ ds => decide (uptoBulkAll ds ≤ 1048576)
def OpenSpec.upto (s : _root_.Go.ChangeSpec) : _root_.Go.OpenSpec := { _root_.Go.OpenSpec.ofChange s with cond := some uptoSmall }

/-- 'testgatelaw30.ShardDivides', WHERE WHAT IT READS IS OF BULK AT MOST 1048576: true; the input reads as it did. -/
def shardDividesUptoRow : OpenClaim := { program := "ytgkfmlgfmcpebaa", sum := "7986647459cff4d0d60fe9f177d1419883bbb8a7a7f738edf20f17bdedb7a637", func := "testgate/testgatelaw30.ShardDivides", spec := "shardDivides", unfollowed := true, recurses := true, apart := false, narrowed := true }
def ShardDividesUptoSaid : Prop := shardDividesUptoRow.holds Try.pinned (OpenSpec.upto shardDividesSpec)

/-- 'testgatelaw30.ShardEnds', WHERE WHAT IT READS IS OF BULK AT MOST 1048576: true; the input reads as it did. -/
def shardEndsUptoRow : OpenClaim := { program := "ytgkfmlgfmcpebaa", sum := "7986647459cff4d0d60fe9f177d1419883bbb8a7a7f738edf20f17bdedb7a637", func := "testgate/testgatelaw30.ShardEnds", spec := "shardEnds", unfollowed := true, recurses := true, apart := false, narrowed := true }
def ShardEndsUptoSaid : Prop := shardEndsUptoRow.holds Try.pinned (OpenSpec.upto shardEndsSpec)

/-- 'testgatelaw30.ShardBest', WHERE WHAT IT READS IS OF BULK AT MOST 1048576: true; the input reads as it did. -/
def shardBestUptoRow : OpenClaim := { program := "ytgkfmlgfmcpebaa", sum := "7986647459cff4d0d60fe9f177d1419883bbb8a7a7f738edf20f17bdedb7a637", func := "testgate/testgatelaw30.ShardBest", spec := "shardBest", unfollowed := true, recurses := true, apart := false, narrowed := true }
def ShardBestUptoSaid : Prop := shardBestUptoRow.holds Try.pinned (OpenSpec.upto shardBestSpec)

/-- 'testgatelaw30.ShardNear', WHERE WHAT IT READS IS OF BULK AT MOST 1048576: true; the input reads as it did. -/
def shardNearUptoRow : OpenClaim := { program := "ytgkfmlgfmcpebaa", sum := "7986647459cff4d0d60fe9f177d1419883bbb8a7a7f738edf20f17bdedb7a637", func := "testgate/testgatelaw30.ShardNear", spec := "shardNear", unfollowed := true, recurses := true, apart := false, narrowed := true }
def ShardNearUptoSaid : Prop := shardNearUptoRow.holds Try.pinned (OpenSpec.upto shardNearSpec)

/-- 'testgatelaw30.ShardBounds', WHERE WHAT IT READS IS OF BULK AT MOST 1048576: true; the input reads as it did. -/
def shardBoundsUptoRow : OpenClaim := { program := "ytgkfmlgfmcpebaa", sum := "7986647459cff4d0d60fe9f177d1419883bbb8a7a7f738edf20f17bdedb7a637", func := "testgate/testgatelaw30.ShardBounds", spec := "shardBounds", unfollowed := true, recurses := true, apart := false, narrowed := true }
def ShardBoundsUptoSaid : Prop := shardBoundsUptoRow.holds Try.pinned (OpenSpec.upto shardBoundsSpec)

/-- 'testgatelaw30.ShardChecks', WHERE WHAT IT READS IS OF BULK AT MOST 1048576: true; the input reads as it did. -/
def shardChecksUptoRow : OpenClaim := { program := "ytgkfmlgfmcpebaa", sum := "7986647459cff4d0d60fe9f177d1419883bbb8a7a7f738edf20f17bdedb7a637", func := "testgate/testgatelaw30.ShardChecks", spec := "shardChecks", unfollowed := true, recurses := true, apart := false, narrowed := true }
def ShardChecksUptoSaid : Prop := shardChecksUptoRow.holds Try.pinned (OpenSpec.upto shardChecksSpec)

/-- 'testgatelaw30.ShardAssigns', WHERE WHAT IT READS IS OF BULK AT MOST 1048576: true; the input reads as it did. -/
def shardAssignsUptoRow : OpenClaim := { program := "ytgkfmlgfmcpebaa", sum := "7986647459cff4d0d60fe9f177d1419883bbb8a7a7f738edf20f17bdedb7a637", func := "testgate/testgatelaw30.ShardAssigns", spec := "shardAssigns", unfollowed := true, recurses := true, apart := false, narrowed := true }
def ShardAssignsUptoSaid : Prop := shardAssignsUptoRow.holds Try.pinned (OpenSpec.upto shardAssignsSpec)

/-- 'testgatelaw30.ShardFree', WHERE WHAT IT READS IS OF BULK AT MOST 1048576: true; the input reads as it did. -/
def shardFreeUptoRow : OpenClaim := { program := "ytgkfmlgfmcpebaa", sum := "7986647459cff4d0d60fe9f177d1419883bbb8a7a7f738edf20f17bdedb7a637", func := "testgate/testgatelaw30.ShardFree", spec := "shardFree", unfollowed := true, recurses := true, apart := false, narrowed := true }
def ShardFreeUptoSaid : Prop := shardFreeUptoRow.holds Try.pinned (OpenSpec.upto shardFreeSpec)

end Rows
end Go.Proofs.Ytgkfmlgfmcpebaa
