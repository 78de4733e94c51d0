/-
  No cell of these rows narrows 'for every input' (looked for: loops, veiled, ifaces, maps, wideKeys, modest, calm, conditions, laid).
  DERIVED. THE GIVEN ROWS OF THIS SEAT. 7 by the template 'for every input the law returns true; each argument reads behind the call as it read before'; 0 by the template 'total and deterministic' (their statements: YtcaihadhpgkceaaTotals.lean).
  GIVEN WITH THE SEED: the statements are not yours to turn. If you find one false, say at which input.
  Laid BY PROGRAM, IN A SANDBOX (cutbox-rows.mjs): the forced cells as the released guide's own fill.sh prints them over the translation c178dba67fa19d4b… (all of the seat's roots in one cut). By AI agents, Wed Nov 11 2026. No macro, syntax, notation, axiom, sorry.
-/
import Derived.Test.YtcaihadhpgkceaaChecked
import GoSem.Claim
import GoSem.ClaimJoined
import GoSem.ClaimMapViews
import Derived.JoinedTies
import Derived.KernelRfl
namespace Go.Proofs.Ytcaihadhpgkceaa
/- THE CELL 'sum', in the pinned program and in every row, IS THE sha256 OF THE DUMP (.gsa) THAT YtcaihadhpgkceaaProg.lean LOADS. Nothing in Lean hashes anything: it is a label: what it is worth is what the hold of that sum in a sandbox is worth. -/
noncomputable def Try.pinned : Pinned := { name := "ytcaihadhpgkceaa", sum := "c178dba67fa19d4b095d8b45fa7936f0008ab1e330a8abf143a365d53e724b61", checked := Try.checked }
namespace Rows
def none {H : Type} : Left H := { results := [], args := [] }

/-- 'testgatelaw34.PoolChecks': WHATEVER THE INPUT: true; the input reads as it did. -/
def poolChecksSpec : ChangeSpec := { name := "poolChecks", fn := fun _ => fun
  | [d1, d2, d3, d4] => { results := [.lit (.bool true)], args := [d1, d2, d3, d4] }
  | _ => none }
def poolChecksRow : OpenClaim := { program := "ytcaihadhpgkceaa", sum := "c178dba67fa19d4b095d8b45fa7936f0008ab1e330a8abf143a365d53e724b61", func := "testgate/testgatelaw34.PoolChecks", spec := "poolChecks", unfollowed := true, recurses := true, apart := false }
def PoolChecksSaid : Prop := poolChecksRow.holds Try.pinned (OpenSpec.ofChange poolChecksSpec)

/-- ITS FALSE NEIGHBOUR: 'it returns false'. Refute it at one input. -/
def poolChecksWrong : ChangeSpec := { name := "poolChecks", fn := fun _ => fun
  | [d1, d2, d3, d4] => { results := [.lit (.bool false)], args := [d1, d2, d3, d4] }
  | _ => none }
def PoolChecksWrongFalsely : Prop := poolChecksRow.holds Try.pinned (OpenSpec.ofChange poolChecksWrong)

/-- 'testgatelaw34.PoolEffects': WHATEVER THE INPUT: true; the input reads as it did. -/
def poolEffectsSpec : ChangeSpec := { name := "poolEffects", fn := fun _ => fun
  | [d1, d2, d3] => { results := [.lit (.bool true)], args := [d1, d2, d3] }
  | _ => none }
def poolEffectsRow : OpenClaim := { program := "ytcaihadhpgkceaa", sum := "c178dba67fa19d4b095d8b45fa7936f0008ab1e330a8abf143a365d53e724b61", func := "testgate/testgatelaw34.PoolEffects", spec := "poolEffects", unfollowed := true, recurses := true, apart := false }
def PoolEffectsSaid : Prop := poolEffectsRow.holds Try.pinned (OpenSpec.ofChange poolEffectsSpec)

/-- ITS FALSE NEIGHBOUR: 'it returns false'. Refute it at one input. -/
def poolEffectsWrong : ChangeSpec := { name := "poolEffects", fn := fun _ => fun
  | [d1, d2, d3] => { results := [.lit (.bool false)], args := [d1, d2, d3] }
  | _ => none }
def PoolEffectsWrongFalsely : Prop := poolEffectsRow.holds Try.pinned (OpenSpec.ofChange poolEffectsWrong)

/-- 'testgatelaw34.PoolSets': WHATEVER THE INPUT: true; the input reads as it did. -/
def poolSetsSpec : ChangeSpec := { name := "poolSets", fn := fun _ => fun
  | [d1, d2, d3] => { results := [.lit (.bool true)], args := [d1, d2, d3] }
  | _ => none }
def poolSetsRow : OpenClaim := { program := "ytcaihadhpgkceaa", sum := "c178dba67fa19d4b095d8b45fa7936f0008ab1e330a8abf143a365d53e724b61", func := "testgate/testgatelaw34.PoolSets", spec := "poolSets", unfollowed := true, recurses := true, apart := false }
def PoolSetsSaid : Prop := poolSetsRow.holds Try.pinned (OpenSpec.ofChange poolSetsSpec)

/-- ITS FALSE NEIGHBOUR: 'it returns false'. Refute it at one input. -/
def poolSetsWrong : ChangeSpec := { name := "poolSets", fn := fun _ => fun
  | [d1, d2, d3] => { results := [.lit (.bool false)], args := [d1, d2, d3] }
  | _ => none }
def PoolSetsWrongFalsely : Prop := poolSetsRow.holds Try.pinned (OpenSpec.ofChange poolSetsWrong)

/-- 'testgatelaw34.PoolConsistent': WHATEVER THE INPUT: true; the input reads as it did. -/
def poolConsistentSpec : ChangeSpec := { name := "poolConsistent", fn := fun _ => fun
  | [d1, d2, d3, d4] => { results := [.lit (.bool true)], args := [d1, d2, d3, d4] }
  | _ => none }
def poolConsistentRow : OpenClaim := { program := "ytcaihadhpgkceaa", sum := "c178dba67fa19d4b095d8b45fa7936f0008ab1e330a8abf143a365d53e724b61", func := "testgate/testgatelaw34.PoolConsistent", spec := "poolConsistent", unfollowed := true, recurses := true, apart := false }
def PoolConsistentSaid : Prop := poolConsistentRow.holds Try.pinned (OpenSpec.ofChange poolConsistentSpec)

/-- ITS FALSE NEIGHBOUR: 'it returns false'. Refute it at one input. -/
def poolConsistentWrong : ChangeSpec := { name := "poolConsistent", fn := fun _ => fun
  | [d1, d2, d3, d4] => { results := [.lit (.bool false)], args := [d1, d2, d3, d4] }
  | _ => none }
def PoolConsistentWrongFalsely : Prop := poolConsistentRow.holds Try.pinned (OpenSpec.ofChange poolConsistentWrong)

/-- 'testgatelaw34.PoolReverts': WHATEVER THE INPUT: true; the input reads as it did. -/
def poolRevertsSpec : ChangeSpec := { name := "poolReverts", fn := fun _ => fun
  | [d1, d2] => { results := [.lit (.bool true)], args := [d1, d2] }
  | _ => none }
def poolRevertsRow : OpenClaim := { program := "ytcaihadhpgkceaa", sum := "c178dba67fa19d4b095d8b45fa7936f0008ab1e330a8abf143a365d53e724b61", func := "testgate/testgatelaw34.PoolReverts", spec := "poolReverts", unfollowed := true, recurses := true, apart := false }
def PoolRevertsSaid : Prop := poolRevertsRow.holds Try.pinned (OpenSpec.ofChange poolRevertsSpec)

/-- ITS FALSE NEIGHBOUR: 'it returns false'. Refute it at one input. -/
def poolRevertsWrong : ChangeSpec := { name := "poolReverts", fn := fun _ => fun
  | [d1, d2] => { results := [.lit (.bool false)], args := [d1, d2] }
  | _ => none }
def PoolRevertsWrongFalsely : Prop := poolRevertsRow.holds Try.pinned (OpenSpec.ofChange poolRevertsWrong)

/-- 'testgatelaw34.PoolKeeps': WHATEVER THE INPUT: true; the input reads as it did. -/
def poolKeepsSpec : ChangeSpec := { name := "poolKeeps", fn := fun _ => fun
  | [d1, d2] => { results := [.lit (.bool true)], args := [d1, d2] }
  | _ => none }
def poolKeepsRow : OpenClaim := { program := "ytcaihadhpgkceaa", sum := "c178dba67fa19d4b095d8b45fa7936f0008ab1e330a8abf143a365d53e724b61", func := "testgate/testgatelaw34.PoolKeeps", spec := "poolKeeps", unfollowed := true, recurses := true, apart := false }
def PoolKeepsSaid : Prop := poolKeepsRow.holds Try.pinned (OpenSpec.ofChange poolKeepsSpec)

/-- ITS FALSE NEIGHBOUR: 'it returns false'. Refute it at one input. -/
def poolKeepsWrong : ChangeSpec := { name := "poolKeeps", fn := fun _ => fun
  | [d1, d2] => { results := [.lit (.bool false)], args := [d1, d2] }
  | _ => none }
def PoolKeepsWrongFalsely : Prop := poolKeepsRow.holds Try.pinned (OpenSpec.ofChange poolKeepsWrong)

/-- 'testgatelaw34.PoolFinds': WHATEVER THE INPUT: true; the input reads as it did. -/
def poolFindsSpec : ChangeSpec := { name := "poolFinds", fn := fun _ => fun
  | [d1, d2, d3, d4] => { results := [.lit (.bool true)], args := [d1, d2, d3, d4] }
  | _ => none }
def poolFindsRow : OpenClaim := { program := "ytcaihadhpgkceaa", sum := "c178dba67fa19d4b095d8b45fa7936f0008ab1e330a8abf143a365d53e724b61", func := "testgate/testgatelaw34.PoolFinds", spec := "poolFinds", unfollowed := true, recurses := true, apart := false }
def PoolFindsSaid : Prop := poolFindsRow.holds Try.pinned (OpenSpec.ofChange poolFindsSpec)

/-- ITS FALSE NEIGHBOUR: 'it returns false'. Refute it at one input. -/
def poolFindsWrong : ChangeSpec := { name := "poolFinds", fn := fun _ => fun
  | [d1, d2, d3, d4] => { results := [.lit (.bool false)], args := [d1, d2, d3, d4] }
  | _ => none }
def PoolFindsWrongFalsely : Prop := poolFindsRow.holds Try.pinned (OpenSpec.ofChange poolFindsWrong)

/- THE SECOND FORM. 'bulk': how many values and letters a reading holds, each counted each time it is reached (what is shared counts as often as it is met; a slice's spare places count too). A statement '..UptoSaid' is the law's where the arguments, and the package variables that the reading takes, are together of bulk at most 1048576: NARROWER than '..Said'. Prove '..Said' where nothing that the law and all that it calls make is longer than what came in: it says more and counts as full. Else prove '..UptoSaid'. A law counts once. -/
mutual
def uptoBulk {H : Type} : DataW H → Nat
  | .lit (.string bytes) => bytes.length + 1
  | .lit _ => 1
  | .nil => 1
  | .ptr d => uptoBulk d + 1
  | .slice elems spare => uptoBulkAll elems + uptoBulkAll spare + 1
  | .agg parts => uptoBulkAll parts + 1
  | .iface _ d => uptoBulk d + 1
  | .map entries => uptoBulkEntries entries + 1
  | .held _ => 1
def uptoBulkAll {H : Type} : List (DataW H) → Nat
  | [] => 0
  | d :: r => uptoBulk d + uptoBulkAll r
def uptoBulkEntries {H : Type} : List (Lit × DataW H) → Nat
  | [] => 0
  | x :: r => uptoBulkEntry x + uptoBulkEntries r
def uptoBulkEntry {H : Type} : Lit × DataW H → Nat
  | (.string bytes, d) => bytes.length + uptoBulk d + 1
  | (_, d) => uptoBulk d + 1
 end
def uptoSmall : (H : Type) → List (DataW H) → Bool := fun _ ds => decide (uptoBulkAll ds ≤ 1048576)
def OpenSpec.upto (s : _root_.Go.ChangeSpec) : _root_.Go.OpenSpec := { _root_.Go.OpenSpec.ofChange s with cond := some uptoSmall }

/-- 'testgatelaw34.PoolChecks', WHERE WHAT IT READS IS OF BULK AT MOST 1048576: true; the input reads as it did. -/
def poolChecksUptoRow : OpenClaim := { program := "ytcaihadhpgkceaa", sum := "c178dba67fa19d4b095d8b45fa7936f0008ab1e330a8abf143a365d53e724b61", func := "testgate/testgatelaw34.PoolChecks", spec := "poolChecks", unfollowed := true, recurses := true, apart := false, narrowed := true }
def PoolChecksUptoSaid : Prop := poolChecksUptoRow.holds Try.pinned (OpenSpec.upto poolChecksSpec)

/-- 'testgatelaw34.PoolEffects', WHERE WHAT IT READS IS OF BULK AT MOST 1048576: true; the input reads as it did. -/
def poolEffectsUptoRow : OpenClaim := { program := "ytcaihadhpgkceaa", sum := "c178dba67fa19d4b095d8b45fa7936f0008ab1e330a8abf143a365d53e724b61", func := "testgate/testgatelaw34.PoolEffects", spec := "poolEffects", unfollowed := true, recurses := true, apart := false, narrowed := true }
def PoolEffectsUptoSaid : Prop := poolEffectsUptoRow.holds Try.pinned (OpenSpec.upto poolEffectsSpec)

/-- 'testgatelaw34.PoolSets', WHERE WHAT IT READS IS OF BULK AT MOST 1048576: true; the input reads as it did. -/
def poolSetsUptoRow : OpenClaim := { program := "ytcaihadhpgkceaa", sum := "c178dba67fa19d4b095d8b45fa7936f0008ab1e330a8abf143a365d53e724b61", func := "testgate/testgatelaw34.PoolSets", spec := "poolSets", unfollowed := true, recurses := true, apart := false, narrowed := true }
def PoolSetsUptoSaid : Prop := poolSetsUptoRow.holds Try.pinned (OpenSpec.upto poolSetsSpec)

/-- 'testgatelaw34.PoolConsistent', WHERE WHAT IT READS IS OF BULK AT MOST 1048576: true; the input reads as it did. -/
def poolConsistentUptoRow : OpenClaim := { program := "ytcaihadhpgkceaa", sum := "c178dba67fa19d4b095d8b45fa7936f0008ab1e330a8abf143a365d53e724b61", func := "testgate/testgatelaw34.PoolConsistent", spec := "poolConsistent", unfollowed := true, recurses := true, apart := false, narrowed := true }
def PoolConsistentUptoSaid : Prop := poolConsistentUptoRow.holds Try.pinned (OpenSpec.upto poolConsistentSpec)

/-- 'testgatelaw34.PoolReverts', WHERE WHAT IT READS IS OF BULK AT MOST 1048576: true; the input reads as it did. -/
def poolRevertsUptoRow : OpenClaim := { program := "ytcaihadhpgkceaa", sum := "c178dba67fa19d4b095d8b45fa7936f0008ab1e330a8abf143a365d53e724b61", func := "testgate/testgatelaw34.PoolReverts", spec := "poolReverts", unfollowed := true, recurses := true, apart := false, narrowed := true }
def PoolRevertsUptoSaid : Prop := poolRevertsUptoRow.holds Try.pinned (OpenSpec.upto poolRevertsSpec)

/-- 'testgatelaw34.PoolKeeps', WHERE WHAT IT READS IS OF BULK AT MOST 1048576: true; the input reads as it did. -/
def poolKeepsUptoRow : OpenClaim := { program := "ytcaihadhpgkceaa", sum := "c178dba67fa19d4b095d8b45fa7936f0008ab1e330a8abf143a365d53e724b61", func := "testgate/testgatelaw34.PoolKeeps", spec := "poolKeeps", unfollowed := true, recurses := true, apart := false, narrowed := true }
def PoolKeepsUptoSaid : Prop := poolKeepsUptoRow.holds Try.pinned (OpenSpec.upto poolKeepsSpec)

/-- 'testgatelaw34.PoolFinds', WHERE WHAT IT READS IS OF BULK AT MOST 1048576: true; the input reads as it did. -/
def poolFindsUptoRow : OpenClaim := { program := "ytcaihadhpgkceaa", sum := "c178dba67fa19d4b095d8b45fa7936f0008ab1e330a8abf143a365d53e724b61", func := "testgate/testgatelaw34.PoolFinds", spec := "poolFinds", unfollowed := true, recurses := true, apart := false, narrowed := true }
def PoolFindsUptoSaid : Prop := poolFindsUptoRow.holds Try.pinned (OpenSpec.upto poolFindsSpec)

end Rows
end Go.Proofs.Ytcaihadhpgkceaa
