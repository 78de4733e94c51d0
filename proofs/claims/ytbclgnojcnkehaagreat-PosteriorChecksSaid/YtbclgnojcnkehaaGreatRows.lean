/-
  No cell of these rows narrows 'for every input' (looked for: loops, veiled, ifaces, maps, wideKeys, modest, calm, conditions, laid).
  DERIVED. THE GIVEN ROWS OF THIS SEAT. 7 by the template 'for every input the law returns true; each argument reads behind the call as it read before'; 0 by the template 'total and deterministic' (their statements: YtbclgnojcnkehaaGreatTotals.lean).
  GIVEN WITH THE SEED: the statements are not yours to turn. If you find one false, say at which input.
  Laid BY PROGRAM, IN A SANDBOX (cutbox-rows.mjs): the forced cells as the released guide's own fill.sh prints them over the translation 8a3856f74233dc3f… (all of the seat's roots in one cut). By AI agents, Wed Nov 11 2026. No macro, syntax, notation, axiom, sorry.
-/
import Derived.Test.YtbclgnojcnkehaaGreatChecked
import GoSem.Claim
import GoSem.ClaimJoined
import GoSem.ClaimMapViews
import Derived.JoinedTies
import Derived.KernelRfl
namespace Go.Proofs.YtbclgnojcnkehaaGreat
/- THE CELL 'sum', in the pinned program and in every row, IS THE sha256 OF THE DUMP (.gsa) THAT YtbclgnojcnkehaaGreatProg.lean LOADS. Nothing in Lean hashes anything: it is a label: what it is worth is what the hold of that sum in a sandbox is worth. -/
noncomputable def Tryz.pinned : Pinned := { name := "ytbclgnojcnkehaagreat", sum := "8a3856f74233dc3f95c4f01ed7f6ddd8d0061b2ceba0bfa5bf216826dbfb8ba6", checked := Tryz.checked }
namespace Rows
def none {H : Type} : Left H := { results := [], args := [] }

/-- 'testgatelaw35.PosteriorNews': WHATEVER THE INPUT: true; the input reads as it did. -/
def posteriorNewsSpec : ChangeSpec := { name := "posteriorNews", fn := fun _ => fun
  | [d1, d2, d3, d4] => { results := [.lit (.bool true)], args := [d1, d2, d3, d4] }
  | _ => none }
def posteriorNewsRow : OpenClaim := { program := "ytbclgnojcnkehaagreat", sum := "8a3856f74233dc3f95c4f01ed7f6ddd8d0061b2ceba0bfa5bf216826dbfb8ba6", func := "testgate/testgatelaw35.PosteriorNews", spec := "posteriorNews", unfollowed := true, recurses := true, apart := false }
def PosteriorNewsSaid : Prop := posteriorNewsRow.holds Tryz.pinned (OpenSpec.ofChange posteriorNewsSpec)

/-- ITS FALSE NEIGHBOUR: 'it returns false'. Refute it at one input. -/
def posteriorNewsWrong : ChangeSpec := { name := "posteriorNews", fn := fun _ => fun
  | [d1, d2, d3, d4] => { results := [.lit (.bool false)], args := [d1, d2, d3, d4] }
  | _ => none }
def PosteriorNewsWrongFalsely : Prop := posteriorNewsRow.holds Tryz.pinned (OpenSpec.ofChange posteriorNewsWrong)

/-- 'testgatelaw35.PosteriorUpdates': WHATEVER THE INPUT: true; the input reads as it did. -/
def posteriorUpdatesSpec : ChangeSpec := { name := "posteriorUpdates", fn := fun _ => fun
  | [d] => { results := [.lit (.bool true)], args := [d] }
  | _ => none }
def posteriorUpdatesRow : OpenClaim := { program := "ytbclgnojcnkehaagreat", sum := "8a3856f74233dc3f95c4f01ed7f6ddd8d0061b2ceba0bfa5bf216826dbfb8ba6", func := "testgate/testgatelaw35.PosteriorUpdates", spec := "posteriorUpdates", unfollowed := true, recurses := true, apart := false }
def PosteriorUpdatesSaid : Prop := posteriorUpdatesRow.holds Tryz.pinned (OpenSpec.ofChange posteriorUpdatesSpec)

/-- ITS FALSE NEIGHBOUR: 'it returns false'. Refute it at one input. -/
def posteriorUpdatesWrong : ChangeSpec := { name := "posteriorUpdates", fn := fun _ => fun
  | [d] => { results := [.lit (.bool false)], args := [d] }
  | _ => none }
def PosteriorUpdatesWrongFalsely : Prop := posteriorUpdatesRow.holds Tryz.pinned (OpenSpec.ofChange posteriorUpdatesWrong)

/-- 'testgatelaw35.PosteriorOrder': WHATEVER THE INPUT: true; the input reads as it did. -/
def posteriorOrderSpec : ChangeSpec := { name := "posteriorOrder", fn := fun _ => fun
  | [d1, d2, d3, d4, d5] => { results := [.lit (.bool true)], args := [d1, d2, d3, d4, d5] }
  | _ => none }
def posteriorOrderRow : OpenClaim := { program := "ytbclgnojcnkehaagreat", sum := "8a3856f74233dc3f95c4f01ed7f6ddd8d0061b2ceba0bfa5bf216826dbfb8ba6", func := "testgate/testgatelaw35.PosteriorOrder", spec := "posteriorOrder", unfollowed := true, recurses := true, apart := false }
def PosteriorOrderSaid : Prop := posteriorOrderRow.holds Tryz.pinned (OpenSpec.ofChange posteriorOrderSpec)

/-- ITS FALSE NEIGHBOUR: 'it returns false'. Refute it at one input. -/
def posteriorOrderWrong : ChangeSpec := { name := "posteriorOrder", fn := fun _ => fun
  | [d1, d2, d3, d4, d5] => { results := [.lit (.bool false)], args := [d1, d2, d3, d4, d5] }
  | _ => none }
def PosteriorOrderWrongFalsely : Prop := posteriorOrderRow.holds Tryz.pinned (OpenSpec.ofChange posteriorOrderWrong)

/-- 'testgatelaw35.PosteriorRatio': WHATEVER THE INPUT: true; the input reads as it did. -/
def posteriorRatioSpec : ChangeSpec := { name := "posteriorRatio", fn := fun _ => fun
  | [d1, d2, d3, d4] => { results := [.lit (.bool true)], args := [d1, d2, d3, d4] }
  | _ => none }
def posteriorRatioRow : OpenClaim := { program := "ytbclgnojcnkehaagreat", sum := "8a3856f74233dc3f95c4f01ed7f6ddd8d0061b2ceba0bfa5bf216826dbfb8ba6", func := "testgate/testgatelaw35.PosteriorRatio", spec := "posteriorRatio", unfollowed := true, recurses := true, apart := false }
def PosteriorRatioSaid : Prop := posteriorRatioRow.holds Tryz.pinned (OpenSpec.ofChange posteriorRatioSpec)

/-- ITS FALSE NEIGHBOUR: 'it returns false'. Refute it at one input. -/
def posteriorRatioWrong : ChangeSpec := { name := "posteriorRatio", fn := fun _ => fun
  | [d1, d2, d3, d4] => { results := [.lit (.bool false)], args := [d1, d2, d3, d4] }
  | _ => none }
def PosteriorRatioWrongFalsely : Prop := posteriorRatioRow.holds Tryz.pinned (OpenSpec.ofChange posteriorRatioWrong)

/-- 'testgatelaw35.PosteriorMean': WHATEVER THE INPUT: true; the input reads as it did. -/
def posteriorMeanSpec : ChangeSpec := { name := "posteriorMean", fn := fun _ => fun
  | [d1, d2] => { results := [.lit (.bool true)], args := [d1, d2] }
  | _ => none }
def posteriorMeanRow : OpenClaim := { program := "ytbclgnojcnkehaagreat", sum := "8a3856f74233dc3f95c4f01ed7f6ddd8d0061b2ceba0bfa5bf216826dbfb8ba6", func := "testgate/testgatelaw35.PosteriorMean", spec := "posteriorMean", unfollowed := true, recurses := true, apart := false }
def PosteriorMeanSaid : Prop := posteriorMeanRow.holds Tryz.pinned (OpenSpec.ofChange posteriorMeanSpec)

/-- ITS FALSE NEIGHBOUR: 'it returns false'. Refute it at one input. -/
def posteriorMeanWrong : ChangeSpec := { name := "posteriorMean", fn := fun _ => fun
  | [d1, d2] => { results := [.lit (.bool false)], args := [d1, d2] }
  | _ => none }
def PosteriorMeanWrongFalsely : Prop := posteriorMeanRow.holds Tryz.pinned (OpenSpec.ofChange posteriorMeanWrong)

/-- 'testgatelaw35.PosteriorTells': WHATEVER THE INPUT: true; the input reads as it did. -/
def posteriorTellsSpec : ChangeSpec := { name := "posteriorTells", fn := fun _ => fun
  | [d1, d2, d3] => { results := [.lit (.bool true)], args := [d1, d2, d3] }
  | _ => none }
def posteriorTellsRow : OpenClaim := { program := "ytbclgnojcnkehaagreat", sum := "8a3856f74233dc3f95c4f01ed7f6ddd8d0061b2ceba0bfa5bf216826dbfb8ba6", func := "testgate/testgatelaw35.PosteriorTells", spec := "posteriorTells", unfollowed := true, recurses := true, apart := false }
def PosteriorTellsSaid : Prop := posteriorTellsRow.holds Tryz.pinned (OpenSpec.ofChange posteriorTellsSpec)

/-- ITS FALSE NEIGHBOUR: 'it returns false'. Refute it at one input. -/
def posteriorTellsWrong : ChangeSpec := { name := "posteriorTells", fn := fun _ => fun
  | [d1, d2, d3] => { results := [.lit (.bool false)], args := [d1, d2, d3] }
  | _ => none }
def PosteriorTellsWrongFalsely : Prop := posteriorTellsRow.holds Tryz.pinned (OpenSpec.ofChange posteriorTellsWrong)

/-- 'testgatelaw35.PosteriorChecks': WHATEVER THE INPUT: true; the input reads as it did. -/
def posteriorChecksSpec : ChangeSpec := { name := "posteriorChecks", fn := fun _ => fun
  | [d1, d2] => { results := [.lit (.bool true)], args := [d1, d2] }
  | _ => none }
def posteriorChecksRow : OpenClaim := { program := "ytbclgnojcnkehaagreat", sum := "8a3856f74233dc3f95c4f01ed7f6ddd8d0061b2ceba0bfa5bf216826dbfb8ba6", func := "testgate/testgatelaw35.PosteriorChecks", spec := "posteriorChecks", unfollowed := true, recurses := true, apart := false }
def PosteriorChecksSaid : Prop := posteriorChecksRow.holds Tryz.pinned (OpenSpec.ofChange posteriorChecksSpec)

/-- ITS FALSE NEIGHBOUR: 'it returns false'. Refute it at one input. -/
def posteriorChecksWrong : ChangeSpec := { name := "posteriorChecks", fn := fun _ => fun
  | [d1, d2] => { results := [.lit (.bool false)], args := [d1, d2] }
  | _ => none }
def PosteriorChecksWrongFalsely : Prop := posteriorChecksRow.holds Tryz.pinned (OpenSpec.ofChange posteriorChecksWrong)

/- THE SECOND FORM. 'bulk': how many values and letters a reading holds, each counted each time it is reached (what is shared counts as often as it is met; a slice's spare places count too). A statement '..UptoSaid' is the law's where the arguments, and the package variables that the reading takes, are together of bulk at most 1048576: NARROWER than '..Said'. Prove '..Said' where nothing that the law and all that it calls make is longer than what came in: it says more and counts as full. Else prove '..UptoSaid'. A law counts once. -/
mutual
def uptoBulk {H : Type} : DataW H → Nat
  | .lit (.string bytes) => bytes.length + 1
  | .lit _ => 1
  | .nil => 1
  | .ptr d => uptoBulk d + 1
  | .slice elems spare => uptoBulkAll elems + uptoBulkAll spare + 1
  | .agg parts => uptoBulkAll parts + 1
  | .iface _ d => uptoBulk d + 1
  | .map entries => uptoBulkEntries entries + 1
  | .held _ => 1
def uptoBulkAll {H : Type} : List (DataW H) → Nat
  | [] => 0
  | d :: r => uptoBulk d + uptoBulkAll r
def uptoBulkEntries {H : Type} : List (Lit × DataW H) → Nat
  | [] => 0
  | x :: r => uptoBulkEntry x + uptoBulkEntries r
def uptoBulkEntry {H : Type} : Lit × DataW H → Nat
  | (.string bytes, d) => bytes.length + uptoBulk d + 1
  | (_, d) => uptoBulk d + 1
 end
def uptoSmall : (H : Type) → List (DataW H) → Bool := fun _ ds => decide (uptoBulkAll ds ≤ 1048576)
def OpenSpec.upto (s : _root_.Go.ChangeSpec) : _root_.Go.OpenSpec := { _root_.Go.OpenSpec.ofChange s with cond := some uptoSmall }

/-- 'testgatelaw35.PosteriorNews', WHERE WHAT IT READS IS OF BULK AT MOST 1048576: true; the input reads as it did. -/
def posteriorNewsUptoRow : OpenClaim := { program := "ytbclgnojcnkehaagreat", sum := "8a3856f74233dc3f95c4f01ed7f6ddd8d0061b2ceba0bfa5bf216826dbfb8ba6", func := "testgate/testgatelaw35.PosteriorNews", spec := "posteriorNews", unfollowed := true, recurses := true, apart := false, narrowed := true }
def PosteriorNewsUptoSaid : Prop := posteriorNewsUptoRow.holds Tryz.pinned (OpenSpec.upto posteriorNewsSpec)

/-- 'testgatelaw35.PosteriorUpdates', WHERE WHAT IT READS IS OF BULK AT MOST 1048576: true; the input reads as it did. -/
def posteriorUpdatesUptoRow : OpenClaim := { program := "ytbclgnojcnkehaagreat", sum := "8a3856f74233dc3f95c4f01ed7f6ddd8d0061b2ceba0bfa5bf216826dbfb8ba6", func := "testgate/testgatelaw35.PosteriorUpdates", spec := "posteriorUpdates", unfollowed := true, recurses := true, apart := false, narrowed := true }
def PosteriorUpdatesUptoSaid : Prop := posteriorUpdatesUptoRow.holds Tryz.pinned (OpenSpec.upto posteriorUpdatesSpec)

/-- 'testgatelaw35.PosteriorOrder', WHERE WHAT IT READS IS OF BULK AT MOST 1048576: true; the input reads as it did. -/
def posteriorOrderUptoRow : OpenClaim := { program := "ytbclgnojcnkehaagreat", sum := "8a3856f74233dc3f95c4f01ed7f6ddd8d0061b2ceba0bfa5bf216826dbfb8ba6", func := "testgate/testgatelaw35.PosteriorOrder", spec := "posteriorOrder", unfollowed := true, recurses := true, apart := false, narrowed := true }
def PosteriorOrderUptoSaid : Prop := posteriorOrderUptoRow.holds Tryz.pinned (OpenSpec.upto posteriorOrderSpec)

/-- 'testgatelaw35.PosteriorRatio', WHERE WHAT IT READS IS OF BULK AT MOST 1048576: true; the input reads as it did. -/
def posteriorRatioUptoRow : OpenClaim := { program := "ytbclgnojcnkehaagreat", sum := "8a3856f74233dc3f95c4f01ed7f6ddd8d0061b2ceba0bfa5bf216826dbfb8ba6", func := "testgate/testgatelaw35.PosteriorRatio", spec := "posteriorRatio", unfollowed := true, recurses := true, apart := false, narrowed := true }
def PosteriorRatioUptoSaid : Prop := posteriorRatioUptoRow.holds Tryz.pinned (OpenSpec.upto posteriorRatioSpec)

/-- 'testgatelaw35.PosteriorMean', WHERE WHAT IT READS IS OF BULK AT MOST 1048576: true; the input reads as it did. -/
def posteriorMeanUptoRow : OpenClaim := { program := "ytbclgnojcnkehaagreat", sum := "8a3856f74233dc3f95c4f01ed7f6ddd8d0061b2ceba0bfa5bf216826dbfb8ba6", func := "testgate/testgatelaw35.PosteriorMean", spec := "posteriorMean", unfollowed := true, recurses := true, apart := false, narrowed := true }
def PosteriorMeanUptoSaid : Prop := posteriorMeanUptoRow.holds Tryz.pinned (OpenSpec.upto posteriorMeanSpec)

/-- 'testgatelaw35.PosteriorTells', WHERE WHAT IT READS IS OF BULK AT MOST 1048576: true; the input reads as it did. -/
def posteriorTellsUptoRow : OpenClaim := { program := "ytbclgnojcnkehaagreat", sum := "8a3856f74233dc3f95c4f01ed7f6ddd8d0061b2ceba0bfa5bf216826dbfb8ba6", func := "testgate/testgatelaw35.PosteriorTells", spec := "posteriorTells", unfollowed := true, recurses := true, apart := false, narrowed := true }
def PosteriorTellsUptoSaid : Prop := posteriorTellsUptoRow.holds Tryz.pinned (OpenSpec.upto posteriorTellsSpec)

/-- 'testgatelaw35.PosteriorChecks', WHERE WHAT IT READS IS OF BULK AT MOST 1048576: true; the input reads as it did. -/
def posteriorChecksUptoRow : OpenClaim := { program := "ytbclgnojcnkehaagreat", sum := "8a3856f74233dc3f95c4f01ed7f6ddd8d0061b2ceba0bfa5bf216826dbfb8ba6", func := "testgate/testgatelaw35.PosteriorChecks", spec := "posteriorChecks", unfollowed := true, recurses := true, apart := false, narrowed := true }
def PosteriorChecksUptoSaid : Prop := posteriorChecksUptoRow.holds Tryz.pinned (OpenSpec.upto posteriorChecksSpec)

end Rows
end Go.Proofs.YtbclgnojcnkehaaGreat
