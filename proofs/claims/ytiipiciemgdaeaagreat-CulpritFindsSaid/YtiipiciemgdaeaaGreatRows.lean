/-
  No cell of these rows narrows 'for every input' (looked for: loops, veiled, ifaces, maps, wideKeys, modest, calm, conditions, laid).
  DERIVED. THE GIVEN ROWS OF THIS SEAT. 7 by the template 'for every input the law returns true; each argument reads behind the call as it read before'; 0 by the template 'total and deterministic' (their statements: YtiipiciemgdaeaaGreatTotals.lean).
  GIVEN WITH THE SEED: the statements are not yours to turn. If you find one false, say at which input.
  Laid BY PROGRAM, IN A SANDBOX (cutbox-rows.mjs): the forced cells as the released guide's own fill.sh prints them over the translation 7e4b659cf0a989bc… (all of the seat's roots in one cut). By AI agents, Wed Nov 11 2026. No macro, syntax, notation, axiom, sorry.
-/
import Derived.Test.YtiipiciemgdaeaaGreatChecked
import GoSem.Claim
import GoSem.ClaimJoined
import GoSem.ClaimMapViews
import Derived.JoinedTies
import Derived.KernelRfl
namespace Go.Proofs.YtiipiciemgdaeaaGreat
/- THE CELL 'sum', in the pinned program and in every row, IS THE sha256 OF THE DUMP (.gsa) THAT YtiipiciemgdaeaaGreatProg.lean LOADS. Nothing in Lean hashes anything: it is a label: what it is worth is what the hold of that sum in a sandbox is worth. -/
noncomputable def Tryz.pinned : Pinned := { name := "ytiipiciemgdaeaagreat", sum := "7e4b659cf0a989bcd5c6899ef60487bc4fdb1358b64be1b24114fc774b9ef530", checked := Tryz.checked }
namespace Rows
def none {H : Type} : Left H := { results := [], args := [] }

/-- 'testgatelaw36.CulpritNews': WHATEVER THE INPUT: true; the input reads as it did. -/
def culpritNewsSpec : ChangeSpec := { name := "culpritNews", fn := fun _ => fun
  | [d1, d2, d3] => { results := [.lit (.bool true)], args := [d1, d2, d3] }
  | _ => none }
def culpritNewsRow : OpenClaim := { program := "ytiipiciemgdaeaagreat", sum := "7e4b659cf0a989bcd5c6899ef60487bc4fdb1358b64be1b24114fc774b9ef530", func := "testgate/testgatelaw36.CulpritNews", spec := "culpritNews", unfollowed := true, recurses := true, apart := false }
def CulpritNewsSaid : Prop := culpritNewsRow.holds Tryz.pinned (OpenSpec.ofChange culpritNewsSpec)

/-- ITS FALSE NEIGHBOUR: 'it returns false'. Refute it at one input. -/
def culpritNewsWrong : ChangeSpec := { name := "culpritNews", fn := fun _ => fun
  | [d1, d2, d3] => { results := [.lit (.bool false)], args := [d1, d2, d3] }
  | _ => none }
def CulpritNewsWrongFalsely : Prop := culpritNewsRow.holds Tryz.pinned (OpenSpec.ofChange culpritNewsWrong)

/-- 'testgatelaw36.CulpritFinds': WHATEVER THE INPUT: true; the input reads as it did. -/
def culpritFindsSpec : ChangeSpec := { name := "culpritFinds", fn := fun _ => fun
  | [d1, d2, d3] => { results := [.lit (.bool true)], args := [d1, d2, d3] }
  | _ => none }
def culpritFindsRow : OpenClaim := { program := "ytiipiciemgdaeaagreat", sum := "7e4b659cf0a989bcd5c6899ef60487bc4fdb1358b64be1b24114fc774b9ef530", func := "testgate/testgatelaw36.CulpritFinds", spec := "culpritFinds", unfollowed := true, recurses := true, apart := false }
def CulpritFindsSaid : Prop := culpritFindsRow.holds Tryz.pinned (OpenSpec.ofChange culpritFindsSpec)

/-- ITS FALSE NEIGHBOUR: 'it returns false'. Refute it at one input. -/
def culpritFindsWrong : ChangeSpec := { name := "culpritFinds", fn := fun _ => fun
  | [d1, d2, d3] => { results := [.lit (.bool false)], args := [d1, d2, d3] }
  | _ => none }
def CulpritFindsWrongFalsely : Prop := culpritFindsRow.holds Tryz.pinned (OpenSpec.ofChange culpritFindsWrong)

/-- 'testgatelaw36.CulpritPlays': WHATEVER THE INPUT: true; the input reads as it did. -/
def culpritPlaysSpec : ChangeSpec := { name := "culpritPlays", fn := fun _ => fun
  | [d] => { results := [.lit (.bool true)], args := [d] }
  | _ => none }
def culpritPlaysRow : OpenClaim := { program := "ytiipiciemgdaeaagreat", sum := "7e4b659cf0a989bcd5c6899ef60487bc4fdb1358b64be1b24114fc774b9ef530", func := "testgate/testgatelaw36.CulpritPlays", spec := "culpritPlays", unfollowed := true, recurses := true, apart := false }
def CulpritPlaysSaid : Prop := culpritPlaysRow.holds Tryz.pinned (OpenSpec.ofChange culpritPlaysSpec)

/-- ITS FALSE NEIGHBOUR: 'it returns false'. Refute it at one input. -/
def culpritPlaysWrong : ChangeSpec := { name := "culpritPlays", fn := fun _ => fun
  | [d] => { results := [.lit (.bool false)], args := [d] }
  | _ => none }
def CulpritPlaysWrongFalsely : Prop := culpritPlaysRow.holds Tryz.pinned (OpenSpec.ofChange culpritPlaysWrong)

/-- 'testgatelaw36.CulpritChecks': WHATEVER THE INPUT: true; the input reads as it did. -/
def culpritChecksSpec : ChangeSpec := { name := "culpritChecks", fn := fun _ => fun
  | [d1, d2, d3] => { results := [.lit (.bool true)], args := [d1, d2, d3] }
  | _ => none }
def culpritChecksRow : OpenClaim := { program := "ytiipiciemgdaeaagreat", sum := "7e4b659cf0a989bcd5c6899ef60487bc4fdb1358b64be1b24114fc774b9ef530", func := "testgate/testgatelaw36.CulpritChecks", spec := "culpritChecks", unfollowed := true, recurses := true, apart := false }
def CulpritChecksSaid : Prop := culpritChecksRow.holds Tryz.pinned (OpenSpec.ofChange culpritChecksSpec)

/-- ITS FALSE NEIGHBOUR: 'it returns false'. Refute it at one input. -/
def culpritChecksWrong : ChangeSpec := { name := "culpritChecks", fn := fun _ => fun
  | [d1, d2, d3] => { results := [.lit (.bool false)], args := [d1, d2, d3] }
  | _ => none }
def CulpritChecksWrongFalsely : Prop := culpritChecksRow.holds Tryz.pinned (OpenSpec.ofChange culpritChecksWrong)

/-- 'testgatelaw36.CulpritErrors': WHATEVER THE INPUT: true; the input reads as it did. -/
def culpritErrorsSpec : ChangeSpec := { name := "culpritErrors", fn := fun _ => fun
  | [d] => { results := [.lit (.bool true)], args := [d] }
  | _ => none }
def culpritErrorsRow : OpenClaim := { program := "ytiipiciemgdaeaagreat", sum := "7e4b659cf0a989bcd5c6899ef60487bc4fdb1358b64be1b24114fc774b9ef530", func := "testgate/testgatelaw36.CulpritErrors", spec := "culpritErrors", unfollowed := true, recurses := true, apart := false }
def CulpritErrorsSaid : Prop := culpritErrorsRow.holds Tryz.pinned (OpenSpec.ofChange culpritErrorsSpec)

/-- ITS FALSE NEIGHBOUR: 'it returns false'. Refute it at one input. -/
def culpritErrorsWrong : ChangeSpec := { name := "culpritErrors", fn := fun _ => fun
  | [d] => { results := [.lit (.bool false)], args := [d] }
  | _ => none }
def CulpritErrorsWrongFalsely : Prop := culpritErrorsRow.holds Tryz.pinned (OpenSpec.ofChange culpritErrorsWrong)

/-- 'testgatelaw36.CulpritBound': WHATEVER THE INPUT: true; the input reads as it did. -/
def culpritBoundSpec : ChangeSpec := { name := "culpritBound", fn := fun _ => fun
  | [d] => { results := [.lit (.bool true)], args := [d] }
  | _ => none }
def culpritBoundRow : OpenClaim := { program := "ytiipiciemgdaeaagreat", sum := "7e4b659cf0a989bcd5c6899ef60487bc4fdb1358b64be1b24114fc774b9ef530", func := "testgate/testgatelaw36.CulpritBound", spec := "culpritBound", unfollowed := true, recurses := true, apart := false }
def CulpritBoundSaid : Prop := culpritBoundRow.holds Tryz.pinned (OpenSpec.ofChange culpritBoundSpec)

/-- ITS FALSE NEIGHBOUR: 'it returns false'. Refute it at one input. -/
def culpritBoundWrong : ChangeSpec := { name := "culpritBound", fn := fun _ => fun
  | [d] => { results := [.lit (.bool false)], args := [d] }
  | _ => none }
def CulpritBoundWrongFalsely : Prop := culpritBoundRow.holds Tryz.pinned (OpenSpec.ofChange culpritBoundWrong)

/-- 'testgatelaw36.CulpritEnds': WHATEVER THE INPUT: true; the input reads as it did. -/
def culpritEndsSpec : ChangeSpec := { name := "culpritEnds", fn := fun _ => fun
  | [d] => { results := [.lit (.bool true)], args := [d] }
  | _ => none }
def culpritEndsRow : OpenClaim := { program := "ytiipiciemgdaeaagreat", sum := "7e4b659cf0a989bcd5c6899ef60487bc4fdb1358b64be1b24114fc774b9ef530", func := "testgate/testgatelaw36.CulpritEnds", spec := "culpritEnds", unfollowed := true, recurses := true, apart := false }
def CulpritEndsSaid : Prop := culpritEndsRow.holds Tryz.pinned (OpenSpec.ofChange culpritEndsSpec)

/-- ITS FALSE NEIGHBOUR: 'it returns false'. Refute it at one input. -/
def culpritEndsWrong : ChangeSpec := { name := "culpritEnds", fn := fun _ => fun
  | [d] => { results := [.lit (.bool false)], args := [d] }
  | _ => none }
def CulpritEndsWrongFalsely : Prop := culpritEndsRow.holds Tryz.pinned (OpenSpec.ofChange culpritEndsWrong)

/- THE SECOND FORM. 'bulk': how many values and letters a reading holds, each counted each time it is reached (what is shared counts as often as it is met; a slice's spare places count too). A statement '..UptoSaid' is the law's where the arguments, and the package variables that the reading takes, are together of bulk at most 1048576: NARROWER than '..Said'. Prove '..Said' where nothing that the law and all that it calls make is longer than what came in: it says more and counts as full. Else prove '..UptoSaid'. A law counts once. -/
mutual
def uptoBulk {H : Type} : DataW H → Nat
  | .lit (.string bytes) => bytes.length + 1
  | .lit _ => 1
  | .nil => 1
  | .ptr d => uptoBulk d + 1
  | .slice elems spare => uptoBulkAll elems + uptoBulkAll spare + 1
  | .agg parts => uptoBulkAll parts + 1
  | .iface _ d => uptoBulk d + 1
  | .map entries => uptoBulkEntries entries + 1
  | .held _ => 1
def uptoBulkAll {H : Type} : List (DataW H) → Nat
  | [] => 0
  | d :: r => uptoBulk d + uptoBulkAll r
def uptoBulkEntries {H : Type} : List (Lit × DataW H) → Nat
  | [] => 0
  | x :: r => uptoBulkEntry x + uptoBulkEntries r
def uptoBulkEntry {H : Type} : Lit × DataW H → Nat
  | (.string bytes, d) => bytes.length + uptoBulk d + 1
  | (_, d) => uptoBulk d + 1
 end
def uptoSmall : (H : Type) → List (DataW H) → Bool := fun _ ds => decide (uptoBulkAll ds ≤ 1048576)
def OpenSpec.upto (s : _root_.Go.ChangeSpec) : _root_.Go.OpenSpec := { _root_.Go.OpenSpec.ofChange s with cond := some uptoSmall }

/-- 'testgatelaw36.CulpritNews', WHERE WHAT IT READS IS OF BULK AT MOST 1048576: true; the input reads as it did. -/
def culpritNewsUptoRow : OpenClaim := { program := "ytiipiciemgdaeaagreat", sum := "7e4b659cf0a989bcd5c6899ef60487bc4fdb1358b64be1b24114fc774b9ef530", func := "testgate/testgatelaw36.CulpritNews", spec := "culpritNews", unfollowed := true, recurses := true, apart := false, narrowed := true }
def CulpritNewsUptoSaid : Prop := culpritNewsUptoRow.holds Tryz.pinned (OpenSpec.upto culpritNewsSpec)

/-- 'testgatelaw36.CulpritFinds', WHERE WHAT IT READS IS OF BULK AT MOST 1048576: true; the input reads as it did. -/
def culpritFindsUptoRow : OpenClaim := { program := "ytiipiciemgdaeaagreat", sum := "7e4b659cf0a989bcd5c6899ef60487bc4fdb1358b64be1b24114fc774b9ef530", func := "testgate/testgatelaw36.CulpritFinds", spec := "culpritFinds", unfollowed := true, recurses := true, apart := false, narrowed := true }
def CulpritFindsUptoSaid : Prop := culpritFindsUptoRow.holds Tryz.pinned (OpenSpec.upto culpritFindsSpec)

/-- 'testgatelaw36.CulpritPlays', WHERE WHAT IT READS IS OF BULK AT MOST 1048576: true; the input reads as it did. -/
def culpritPlaysUptoRow : OpenClaim := { program := "ytiipiciemgdaeaagreat", sum := "7e4b659cf0a989bcd5c6899ef60487bc4fdb1358b64be1b24114fc774b9ef530", func := "testgate/testgatelaw36.CulpritPlays", spec := "culpritPlays", unfollowed := true, recurses := true, apart := false, narrowed := true }
def CulpritPlaysUptoSaid : Prop := culpritPlaysUptoRow.holds Tryz.pinned (OpenSpec.upto culpritPlaysSpec)

/-- 'testgatelaw36.CulpritChecks', WHERE WHAT IT READS IS OF BULK AT MOST 1048576: true; the input reads as it did. -/
def culpritChecksUptoRow : OpenClaim := { program := "ytiipiciemgdaeaagreat", sum := "7e4b659cf0a989bcd5c6899ef60487bc4fdb1358b64be1b24114fc774b9ef530", func := "testgate/testgatelaw36.CulpritChecks", spec := "culpritChecks", unfollowed := true, recurses := true, apart := false, narrowed := true }
def CulpritChecksUptoSaid : Prop := culpritChecksUptoRow.holds Tryz.pinned (OpenSpec.upto culpritChecksSpec)

/-- 'testgatelaw36.CulpritErrors', WHERE WHAT IT READS IS OF BULK AT MOST 1048576: true; the input reads as it did. -/
def culpritErrorsUptoRow : OpenClaim := { program := "ytiipiciemgdaeaagreat", sum := "7e4b659cf0a989bcd5c6899ef60487bc4fdb1358b64be1b24114fc774b9ef530", func := "testgate/testgatelaw36.CulpritErrors", spec := "culpritErrors", unfollowed := true, recurses := true, apart := false, narrowed := true }
def CulpritErrorsUptoSaid : Prop := culpritErrorsUptoRow.holds Tryz.pinned (OpenSpec.upto culpritErrorsSpec)

/-- 'testgatelaw36.CulpritBound', WHERE WHAT IT READS IS OF BULK AT MOST 1048576: true; the input reads as it did. -/
def culpritBoundUptoRow : OpenClaim := { program := "ytiipiciemgdaeaagreat", sum := "7e4b659cf0a989bcd5c6899ef60487bc4fdb1358b64be1b24114fc774b9ef530", func := "testgate/testgatelaw36.CulpritBound", spec := "culpritBound", unfollowed := true, recurses := true, apart := false, narrowed := true }
def CulpritBoundUptoSaid : Prop := culpritBoundUptoRow.holds Tryz.pinned (OpenSpec.upto culpritBoundSpec)

/-- 'testgatelaw36.CulpritEnds', WHERE WHAT IT READS IS OF BULK AT MOST 1048576: true; the input reads as it did. -/
def culpritEndsUptoRow : OpenClaim := { program := "ytiipiciemgdaeaagreat", sum := "7e4b659cf0a989bcd5c6899ef60487bc4fdb1358b64be1b24114fc774b9ef530", func := "testgate/testgatelaw36.CulpritEnds", spec := "culpritEnds", unfollowed := true, recurses := true, apart := false, narrowed := true }
def CulpritEndsUptoSaid : Prop := culpritEndsUptoRow.holds Tryz.pinned (OpenSpec.upto culpritEndsSpec)

end Rows
end Go.Proofs.YtiipiciemgdaeaaGreat
