/-
  No cell of these rows narrows 'for every input' (looked for: loops, veiled, ifaces, maps, wideKeys, modest, calm, conditions, laid).
  DERIVED. THE GIVEN ROWS OF THIS SEAT. 5 by the template 'for every input the law returns true; each argument reads behind the call as it read before'; 0 by the template 'total and deterministic' (their statements: YtngcbfmnjfghjaaTotals.lean).
  GIVEN WITH THE SEED: the statements are not yours to turn. If you find one false, say at which input.
  Laid BY PROGRAM, IN A SANDBOX (cutbox-rows.mjs): the forced cells as the released guide's own fill.sh prints them over the translation 71930678d878b297… (all of the seat's roots in one cut). By AI agents, Wed Nov 11 2026. No macro, syntax, notation, axiom, sorry.
-/
import Derived.Test.YtngcbfmnjfghjaaChecked
import GoSem.Claim
import GoSem.ClaimJoined
import GoSem.ClaimMapViews
import Derived.JoinedTies
import Derived.KernelRfl
namespace Go.Proofs.Ytngcbfmnjfghjaa
/- THE CELL 'sum', in the pinned program and in every row, IS THE sha256 OF THE DUMP (.gsa) THAT YtngcbfmnjfghjaaProg.lean LOADS. Nothing in Lean hashes anything: it is a label: what it is worth is what the hold of that sum in a sandbox is worth. -/
noncomputable def Try.pinned : Pinned := { name := "ytngcbfmnjfghjaa", sum := "71930678d878b2979e7e9a38090a49713ea9f4ec2a93c42d4c57213f570ce4d4", checked := Try.checked }
namespace Rows
def none {H : Type} : Left H := { results := [], args := [] }

/-- 'testgatelaw31.RunnerTicks': WHATEVER THE INPUT: true; the input reads as it did. -/
def runnerTicksSpec : ChangeSpec := { name := "runnerTicks", fn := fun _ => fun
  | [d1, d2, d3, d4] => { results := [.lit (.bool true)], args := [d1, d2, d3, d4] }
  | _ => none }
def runnerTicksRow : OpenClaim := { program := "ytngcbfmnjfghjaa", sum := "71930678d878b2979e7e9a38090a49713ea9f4ec2a93c42d4c57213f570ce4d4", func := "testgate/testgatelaw31.RunnerTicks", spec := "runnerTicks", unfollowed := true, recurses := true, plainKeys := false, apart := false }
def RunnerTicksSaid : Prop := runnerTicksRow.holds Try.pinned (OpenSpec.ofChange runnerTicksSpec)

/-- ITS FALSE NEIGHBOUR: 'it returns false'. Refute it at one input. -/
def runnerTicksWrong : ChangeSpec := { name := "runnerTicks", fn := fun _ => fun
  | [d1, d2, d3, d4] => { results := [.lit (.bool false)], args := [d1, d2, d3, d4] }
  | _ => none }
def RunnerTicksWrongFalsely : Prop := runnerTicksRow.holds Try.pinned (OpenSpec.ofChange runnerTicksWrong)

/-- 'testgatelaw31.RunnerOnce': WHATEVER THE INPUT: true; the input reads as it did. -/
def runnerOnceSpec : ChangeSpec := { name := "runnerOnce", fn := fun _ => fun
  | [d] => { results := [.lit (.bool true)], args := [d] }
  | _ => none }
def runnerOnceRow : OpenClaim := { program := "ytngcbfmnjfghjaa", sum := "71930678d878b2979e7e9a38090a49713ea9f4ec2a93c42d4c57213f570ce4d4", func := "testgate/testgatelaw31.RunnerOnce", spec := "runnerOnce", unfollowed := true, recurses := true, plainKeys := false, apart := false }
def RunnerOnceSaid : Prop := runnerOnceRow.holds Try.pinned (OpenSpec.ofChange runnerOnceSpec)

/-- ITS FALSE NEIGHBOUR: 'it returns false'. Refute it at one input. -/
def runnerOnceWrong : ChangeSpec := { name := "runnerOnce", fn := fun _ => fun
  | [d] => { results := [.lit (.bool false)], args := [d] }
  | _ => none }
def RunnerOnceWrongFalsely : Prop := runnerOnceRow.holds Try.pinned (OpenSpec.ofChange runnerOnceWrong)

/-- 'testgatelaw31.RunnerLives': WHATEVER THE INPUT: true; the input reads as it did. -/
def runnerLivesSpec : ChangeSpec := { name := "runnerLives", fn := fun _ => fun
  | [d] => { results := [.lit (.bool true)], args := [d] }
  | _ => none }
def runnerLivesRow : OpenClaim := { program := "ytngcbfmnjfghjaa", sum := "71930678d878b2979e7e9a38090a49713ea9f4ec2a93c42d4c57213f570ce4d4", func := "testgate/testgatelaw31.RunnerLives", spec := "runnerLives", unfollowed := true, recurses := true, plainKeys := false, apart := false }
def RunnerLivesSaid : Prop := runnerLivesRow.holds Try.pinned (OpenSpec.ofChange runnerLivesSpec)

/-- ITS FALSE NEIGHBOUR: 'it returns false'. Refute it at one input. -/
def runnerLivesWrong : ChangeSpec := { name := "runnerLives", fn := fun _ => fun
  | [d] => { results := [.lit (.bool false)], args := [d] }
  | _ => none }
def RunnerLivesWrongFalsely : Prop := runnerLivesRow.holds Try.pinned (OpenSpec.ofChange runnerLivesWrong)

/-- 'testgatelaw31.RunnerPlays': WHATEVER THE INPUT: true; the input reads as it did. -/
def runnerPlaysSpec : ChangeSpec := { name := "runnerPlays", fn := fun _ => fun
  | [d] => { results := [.lit (.bool true)], args := [d] }
  | _ => none }
def runnerPlaysRow : OpenClaim := { program := "ytngcbfmnjfghjaa", sum := "71930678d878b2979e7e9a38090a49713ea9f4ec2a93c42d4c57213f570ce4d4", func := "testgate/testgatelaw31.RunnerPlays", spec := "runnerPlays", unfollowed := true, recurses := true, plainKeys := false, apart := false }
def RunnerPlaysSaid : Prop := runnerPlaysRow.holds Try.pinned (OpenSpec.ofChange runnerPlaysSpec)

/-- ITS FALSE NEIGHBOUR: 'it returns false'. Refute it at one input. -/
def runnerPlaysWrong : ChangeSpec := { name := "runnerPlays", fn := fun _ => fun
  | [d] => { results := [.lit (.bool false)], args := [d] }
  | _ => none }
def RunnerPlaysWrongFalsely : Prop := runnerPlaysRow.holds Try.pinned (OpenSpec.ofChange runnerPlaysWrong)

/-- 'testgatelaw31.RunnerChecks': WHATEVER THE INPUT: true; the input reads as it did. -/
def runnerChecksSpec : ChangeSpec := { name := "runnerChecks", fn := fun _ => fun
  | [d1, d2, d3] => { results := [.lit (.bool true)], args := [d1, d2, d3] }
  | _ => none }
def runnerChecksRow : OpenClaim := { program := "ytngcbfmnjfghjaa", sum := "71930678d878b2979e7e9a38090a49713ea9f4ec2a93c42d4c57213f570ce4d4", func := "testgate/testgatelaw31.RunnerChecks", spec := "runnerChecks", unfollowed := true, recurses := true, plainKeys := false, apart := false }
def RunnerChecksSaid : Prop := runnerChecksRow.holds Try.pinned (OpenSpec.ofChange runnerChecksSpec)

/-- ITS FALSE NEIGHBOUR: 'it returns false'. Refute it at one input. -/
def runnerChecksWrong : ChangeSpec := { name := "runnerChecks", fn := fun _ => fun
  | [d1, d2, d3] => { results := [.lit (.bool false)], args := [d1, d2, d3] }
  | _ => none }
def RunnerChecksWrongFalsely : Prop := runnerChecksRow.holds Try.pinned (OpenSpec.ofChange runnerChecksWrong)

/- THE SECOND FORM. 'bulk': how many values and letters a reading holds, each counted each time it is reached (what is shared counts as often as it is met; a slice's spare places count too). A statement '..UptoSaid' is the law's where the arguments, and the package variables that the reading takes, are together of bulk at most 1048576: NARROWER than '..Said'. Prove '..Said' where nothing that the law and all that it calls make is longer than what came in: it says more and counts as full. Else prove '..UptoSaid'. A law counts once. -/
mutual
def uptoBulk {H : Type} : DataW H → Nat
  | .lit (.string bytes) => bytes.length + 1
  | .lit _ => 1
  | .nil => 1
  | .ptr d => uptoBulk d + 1
  | .slice elems spare => uptoBulkAll elems + uptoBulkAll spare + 1
  | .agg parts => uptoBulkAll parts + 1
  | .iface _ d => uptoBulk d + 1
  | .map entries => uptoBulkEntries entries + 1
  | .held _ => 1
def uptoBulkAll {H : Type} : List (DataW H) → Nat
  | [] => 0
  | d :: r => uptoBulk d + uptoBulkAll r
def uptoBulkEntries {H : Type} : List (Lit × DataW H) → Nat
  | [] => 0
  | x :: r => uptoBulkEntry x + uptoBulkEntries r
def uptoBulkEntry {H : Type} : Lit × DataW H → Nat
  | (.string bytes, d) => bytes.length + uptoBulk d + 1
  | (_, d) => uptoBulk d + 1
 end
def uptoSmall : (H : Type) → List (DataW H) → Bool := fun _ ds => decide (uptoBulkAll ds ≤ 1048576)
def OpenSpec.upto (s : _root_.Go.ChangeSpec) : _root_.Go.OpenSpec := { _root_.Go.OpenSpec.ofChange s with cond := some uptoSmall }

/-- 'testgatelaw31.RunnerTicks', WHERE WHAT IT READS IS OF BULK AT MOST 1048576: true; the input reads as it did. -/
def runnerTicksUptoRow : OpenClaim := { program := "ytngcbfmnjfghjaa", sum := "71930678d878b2979e7e9a38090a49713ea9f4ec2a93c42d4c57213f570ce4d4", func := "testgate/testgatelaw31.RunnerTicks", spec := "runnerTicks", unfollowed := true, recurses := true, plainKeys := false, apart := false, narrowed := true }
def RunnerTicksUptoSaid : Prop := runnerTicksUptoRow.holds Try.pinned (OpenSpec.upto runnerTicksSpec)

/-- 'testgatelaw31.RunnerOnce', WHERE WHAT IT READS IS OF BULK AT MOST 1048576: true; the input reads as it did. -/
def runnerOnceUptoRow : OpenClaim := { program := "ytngcbfmnjfghjaa", sum := "71930678d878b2979e7e9a38090a49713ea9f4ec2a93c42d4c57213f570ce4d4", func := "testgate/testgatelaw31.RunnerOnce", spec := "runnerOnce", unfollowed := true, recurses := true, plainKeys := false, apart := false, narrowed := true }
def RunnerOnceUptoSaid : Prop := runnerOnceUptoRow.holds Try.pinned (OpenSpec.upto runnerOnceSpec)

/-- 'testgatelaw31.RunnerLives', WHERE WHAT IT READS IS OF BULK AT MOST 1048576: true; the input reads as it did. -/
def runnerLivesUptoRow : OpenClaim := { program := "ytngcbfmnjfghjaa", sum := "71930678d878b2979e7e9a38090a49713ea9f4ec2a93c42d4c57213f570ce4d4", func := "testgate/testgatelaw31.RunnerLives", spec := "runnerLives", unfollowed := true, recurses := true, plainKeys := false, apart := false, narrowed := true }
def RunnerLivesUptoSaid : Prop := runnerLivesUptoRow.holds Try.pinned (OpenSpec.upto runnerLivesSpec)

/-- 'testgatelaw31.RunnerPlays', WHERE WHAT IT READS IS OF BULK AT MOST 1048576: true; the input reads as it did. -/
def runnerPlaysUptoRow : OpenClaim := { program := "ytngcbfmnjfghjaa", sum := "71930678d878b2979e7e9a38090a49713ea9f4ec2a93c42d4c57213f570ce4d4", func := "testgate/testgatelaw31.RunnerPlays", spec := "runnerPlays", unfollowed := true, recurses := true, plainKeys := false, apart := false, narrowed := true }
def RunnerPlaysUptoSaid : Prop := runnerPlaysUptoRow.holds Try.pinned (OpenSpec.upto runnerPlaysSpec)

/-- 'testgatelaw31.RunnerChecks', WHERE WHAT IT READS IS OF BULK AT MOST 1048576: true; the input reads as it did. -/
def runnerChecksUptoRow : OpenClaim := { program := "ytngcbfmnjfghjaa", sum := "71930678d878b2979e7e9a38090a49713ea9f4ec2a93c42d4c57213f570ce4d4", func := "testgate/testgatelaw31.RunnerChecks", spec := "runnerChecks", unfollowed := true, recurses := true, plainKeys := false, apart := false, narrowed := true }
def RunnerChecksUptoSaid : Prop := runnerChecksUptoRow.holds Try.pinned (OpenSpec.upto runnerChecksSpec)

end Rows
end Go.Proofs.Ytngcbfmnjfghjaa
