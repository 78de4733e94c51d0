/-
  No cell of these rows narrows 'for every input' (looked for: loops, veiled, ifaces, maps, wideKeys, modest, calm, conditions, laid).
  DERIVED. THE GIVEN ROWS OF THIS SEAT. 7 by the template 'for every input the law returns true; each argument reads behind the call as it read before'; 0 by the template 'total and deterministic' (their statements: YtjapnklocibgaaaTotals.lean).
  GIVEN WITH THE SEED: the statements are not yours to turn. If you find one false, say at which input.
  Laid BY PROGRAM, IN A SANDBOX (cutbox-rows.mjs): the forced cells as the released guide's own fill.sh prints them over the translation fce8299d7e1a91b5… (all of the seat's roots in one cut). By AI agents, Wed Nov 11 2026. No macro, syntax, notation, axiom, sorry.
-/
import Derived.Test.YtjapnklocibgaaaChecked
import GoSem.Claim
import GoSem.ClaimJoined
import GoSem.ClaimMapViews
import Derived.JoinedTies
import Derived.KernelRfl
namespace Go.Proofs.Ytjapnklocibgaaa
/- THE CELL 'sum', in the pinned program and in every row, IS THE sha256 OF THE DUMP (.gsa) THAT YtjapnklocibgaaaProg.lean LOADS. Nothing in Lean hashes anything: it is a label: what it is worth is what the hold of that sum in a sandbox is worth. -/
noncomputable def Try.pinned : Pinned := { name := "ytjapnklocibgaaa", sum := "fce8299d7e1a91b5460da3a03d6842ff4efba51a1bf0065bc5212018f83f245d", checked := Try.checked }
namespace Rows
def none {H : Type} : Left H := { results := [], args := [] }

/-- 'testgatelaw29.OrderLeast': WHATEVER THE INPUT: true; the input reads as it did. -/
def orderLeastSpec : ChangeSpec := { name := "orderLeast", fn := fun _ => fun
  | [d] => { results := [.lit (.bool true)], args := [d] }
  | _ => none }
def orderLeastRow : OpenClaim := { program := "ytjapnklocibgaaa", sum := "fce8299d7e1a91b5460da3a03d6842ff4efba51a1bf0065bc5212018f83f245d", func := "testgate/testgatelaw29.OrderLeast", spec := "orderLeast", unfollowed := true, recurses := true, apart := false }
def OrderLeastSaid : Prop := orderLeastRow.holds Try.pinned (OpenSpec.ofChange orderLeastSpec)

/-- ITS FALSE NEIGHBOUR: 'it returns false'. Refute it at one input. -/
def orderLeastWrong : ChangeSpec := { name := "orderLeast", fn := fun _ => fun
  | [d] => { results := [.lit (.bool false)], args := [d] }
  | _ => none }
def OrderLeastWrongFalsely : Prop := orderLeastRow.holds Try.pinned (OpenSpec.ofChange orderLeastWrong)

/-- 'testgatelaw29.OrderAll': WHATEVER THE INPUT: true; the input reads as it did. -/
def orderAllSpec : ChangeSpec := { name := "orderAll", fn := fun _ => fun
  | [d] => { results := [.lit (.bool true)], args := [d] }
  | _ => none }
def orderAllRow : OpenClaim := { program := "ytjapnklocibgaaa", sum := "fce8299d7e1a91b5460da3a03d6842ff4efba51a1bf0065bc5212018f83f245d", func := "testgate/testgatelaw29.OrderAll", spec := "orderAll", unfollowed := true, recurses := true, apart := false }
def OrderAllSaid : Prop := orderAllRow.holds Try.pinned (OpenSpec.ofChange orderAllSpec)

/-- ITS FALSE NEIGHBOUR: 'it returns false'. Refute it at one input. -/
def orderAllWrong : ChangeSpec := { name := "orderAll", fn := fun _ => fun
  | [d] => { results := [.lit (.bool false)], args := [d] }
  | _ => none }
def OrderAllWrongFalsely : Prop := orderAllRow.holds Try.pinned (OpenSpec.ofChange orderAllWrong)

/-- 'testgatelaw29.OrderScales': WHATEVER THE INPUT: true; the input reads as it did. -/
def orderScalesSpec : ChangeSpec := { name := "orderScales", fn := fun _ => fun
  | [d1, d2] => { results := [.lit (.bool true)], args := [d1, d2] }
  | _ => none }
def orderScalesRow : OpenClaim := { program := "ytjapnklocibgaaa", sum := "fce8299d7e1a91b5460da3a03d6842ff4efba51a1bf0065bc5212018f83f245d", func := "testgate/testgatelaw29.OrderScales", spec := "orderScales", unfollowed := true, recurses := true, apart := false }
def OrderScalesSaid : Prop := orderScalesRow.holds Try.pinned (OpenSpec.ofChange orderScalesSpec)

/-- ITS FALSE NEIGHBOUR: 'it returns false'. Refute it at one input. -/
def orderScalesWrong : ChangeSpec := { name := "orderScales", fn := fun _ => fun
  | [d1, d2] => { results := [.lit (.bool false)], args := [d1, d2] }
  | _ => none }
def OrderScalesWrongFalsely : Prop := orderScalesRow.holds Try.pinned (OpenSpec.ofChange orderScalesWrong)

/-- 'testgatelaw29.OrderOrders': WHATEVER THE INPUT: true; the input reads as it did. -/
def orderOrdersSpec : ChangeSpec := { name := "orderOrders", fn := fun _ => fun
  | [d] => { results := [.lit (.bool true)], args := [d] }
  | _ => none }
def orderOrdersRow : OpenClaim := { program := "ytjapnklocibgaaa", sum := "fce8299d7e1a91b5460da3a03d6842ff4efba51a1bf0065bc5212018f83f245d", func := "testgate/testgatelaw29.OrderOrders", spec := "orderOrders", inPlace := ["internal/bytealg.abigen_runtime_cmpstring"], unfollowed := true, recurses := true, apart := false }
def OrderOrdersSaid : Prop := orderOrdersRow.holds Try.pinned (OpenSpec.ofChange orderOrdersSpec)

/-- ITS FALSE NEIGHBOUR: 'it returns false'. Refute it at one input. -/
def orderOrdersWrong : ChangeSpec := { name := "orderOrders", fn := fun _ => fun
  | [d] => { results := [.lit (.bool false)], args := [d] }
  | _ => none }
def OrderOrdersWrongFalsely : Prop := orderOrdersRow.holds Try.pinned (OpenSpec.ofChange orderOrdersWrong)

/-- 'testgatelaw29.OrderChecks': WHATEVER THE INPUT: true; the input reads as it did. -/
def orderChecksSpec : ChangeSpec := { name := "orderChecks", fn := fun _ => fun
  | [d1, d2, d3] => { results := [.lit (.bool true)], args := [d1, d2, d3] }
  | _ => none }
def orderChecksRow : OpenClaim := { program := "ytjapnklocibgaaa", sum := "fce8299d7e1a91b5460da3a03d6842ff4efba51a1bf0065bc5212018f83f245d", func := "testgate/testgatelaw29.OrderChecks", spec := "orderChecks", unfollowed := true, recurses := true, apart := false }
def OrderChecksSaid : Prop := orderChecksRow.holds Try.pinned (OpenSpec.ofChange orderChecksSpec)

/-- ITS FALSE NEIGHBOUR: 'it returns false'. Refute it at one input. -/
def orderChecksWrong : ChangeSpec := { name := "orderChecks", fn := fun _ => fun
  | [d1, d2, d3] => { results := [.lit (.bool false)], args := [d1, d2, d3] }
  | _ => none }
def OrderChecksWrongFalsely : Prop := orderChecksRow.holds Try.pinned (OpenSpec.ofChange orderChecksWrong)

/-- 'testgatelaw29.OrderCounts': WHATEVER THE INPUT: true; the input reads as it did. -/
def orderCountsSpec : ChangeSpec := { name := "orderCounts", fn := fun _ => fun
  | [d1, d2, d3] => { results := [.lit (.bool true)], args := [d1, d2, d3] }
  | _ => none }
def orderCountsRow : OpenClaim := { program := "ytjapnklocibgaaa", sum := "fce8299d7e1a91b5460da3a03d6842ff4efba51a1bf0065bc5212018f83f245d", func := "testgate/testgatelaw29.OrderCounts", spec := "orderCounts", unfollowed := true, recurses := true, apart := false }
def OrderCountsSaid : Prop := orderCountsRow.holds Try.pinned (OpenSpec.ofChange orderCountsSpec)

/-- ITS FALSE NEIGHBOUR: 'it returns false'. Refute it at one input. -/
def orderCountsWrong : ChangeSpec := { name := "orderCounts", fn := fun _ => fun
  | [d1, d2, d3] => { results := [.lit (.bool false)], args := [d1, d2, d3] }
  | _ => none }
def OrderCountsWrongFalsely : Prop := orderCountsRow.holds Try.pinned (OpenSpec.ofChange orderCountsWrong)

/-- 'testgatelaw29.OrderBudgets': WHATEVER THE INPUT: true; the input reads as it did. -/
def orderBudgetsSpec : ChangeSpec := { name := "orderBudgets", fn := fun _ => fun
  | [d1, d2] => { results := [.lit (.bool true)], args := [d1, d2] }
  | _ => none }
def orderBudgetsRow : OpenClaim := { program := "ytjapnklocibgaaa", sum := "fce8299d7e1a91b5460da3a03d6842ff4efba51a1bf0065bc5212018f83f245d", func := "testgate/testgatelaw29.OrderBudgets", spec := "orderBudgets", unfollowed := true, recurses := true, apart := false }
def OrderBudgetsSaid : Prop := orderBudgetsRow.holds Try.pinned (OpenSpec.ofChange orderBudgetsSpec)

/-- ITS FALSE NEIGHBOUR: 'it returns false'. Refute it at one input. -/
def orderBudgetsWrong : ChangeSpec := { name := "orderBudgets", fn := fun _ => fun
  | [d1, d2] => { results := [.lit (.bool false)], args := [d1, d2] }
  | _ => none }
def OrderBudgetsWrongFalsely : Prop := orderBudgetsRow.holds Try.pinned (OpenSpec.ofChange orderBudgetsWrong)

/- THE SECOND FORM. 'bulk': how many values and letters a reading holds, each counted each time it is reached (what is shared counts as often as it is met; a slice's spare places count too). A statement '..UptoSaid' is the law's where the arguments, and the package variables that the reading takes, are together of bulk at most 1048576: NARROWER than '..Said'. Prove '..Said' where nothing that the law and all that it calls make is longer than what came in: it says more and counts as full. Else prove '..UptoSaid'. A law counts once. -/
mutual
def uptoBulk {H : Type} : DataW H → Nat
  | .lit (.string bytes) => bytes.length + 1
  | .lit _ => 1
  | .nil => 1
  | .ptr d => uptoBulk d + 1
  | .slice elems spare => uptoBulkAll elems + uptoBulkAll spare + 1
  | .agg parts => uptoBulkAll parts + 1
  | .iface _ d => uptoBulk d + 1
  | .map entries => uptoBulkEntries entries + 1
  | .held _ => 1
def uptoBulkAll {H : Type} : List (DataW H) → Nat
  | [] => 0
  | d :: r => uptoBulk d + uptoBulkAll r
def uptoBulkEntries {H : Type} : List (Lit × DataW H) → Nat
  | [] => 0
  | x :: r => uptoBulkEntry x + uptoBulkEntries r
def uptoBulkEntry {H : Type} : Lit × DataW H → Nat
  | (.string bytes, d) => bytes.length + uptoBulk d + 1
  | (_, d) => uptoBulk d + 1
 end
def uptoSmall : (H : Type) → List (DataW H) → Bool := fun _ ds => decide (uptoBulkAll ds ≤ 1048576)
def OpenSpec.upto (s : _root_.Go.ChangeSpec) : _root_.Go.OpenSpec := { _root_.Go.OpenSpec.ofChange s with cond := some uptoSmall }

/-- 'testgatelaw29.OrderLeast', WHERE WHAT IT READS IS OF BULK AT MOST 1048576: true; the input reads as it did. -/
def orderLeastUptoRow : OpenClaim := { program := "ytjapnklocibgaaa", sum := "fce8299d7e1a91b5460da3a03d6842ff4efba51a1bf0065bc5212018f83f245d", func := "testgate/testgatelaw29.OrderLeast", spec := "orderLeast", unfollowed := true, recurses := true, apart := false, narrowed := true }
def OrderLeastUptoSaid : Prop := orderLeastUptoRow.holds Try.pinned (OpenSpec.upto orderLeastSpec)

/-- 'testgatelaw29.OrderAll', WHERE WHAT IT READS IS OF BULK AT MOST 1048576: true; the input reads as it did. -/
def orderAllUptoRow : OpenClaim := { program := "ytjapnklocibgaaa", sum := "fce8299d7e1a91b5460da3a03d6842ff4efba51a1bf0065bc5212018f83f245d", func := "testgate/testgatelaw29.OrderAll", spec := "orderAll", unfollowed := true, recurses := true, apart := false, narrowed := true }
def OrderAllUptoSaid : Prop := orderAllUptoRow.holds Try.pinned (OpenSpec.upto orderAllSpec)

/-- 'testgatelaw29.OrderScales', WHERE WHAT IT READS IS OF BULK AT MOST 1048576: true; the input reads as it did. -/
def orderScalesUptoRow : OpenClaim := { program := "ytjapnklocibgaaa", sum := "fce8299d7e1a91b5460da3a03d6842ff4efba51a1bf0065bc5212018f83f245d", func := "testgate/testgatelaw29.OrderScales", spec := "orderScales", unfollowed := true, recurses := true, apart := false, narrowed := true }
def OrderScalesUptoSaid : Prop := orderScalesUptoRow.holds Try.pinned (OpenSpec.upto orderScalesSpec)

/-- 'testgatelaw29.OrderOrders', WHERE WHAT IT READS IS OF BULK AT MOST 1048576: true; the input reads as it did. -/
def orderOrdersUptoRow : OpenClaim := { program := "ytjapnklocibgaaa", sum := "fce8299d7e1a91b5460da3a03d6842ff4efba51a1bf0065bc5212018f83f245d", func := "testgate/testgatelaw29.OrderOrders", spec := "orderOrders", inPlace := ["internal/bytealg.abigen_runtime_cmpstring"], unfollowed := true, recurses := true, apart := false, narrowed := true }
def OrderOrdersUptoSaid : Prop := orderOrdersUptoRow.holds Try.pinned (OpenSpec.upto orderOrdersSpec)

/-- 'testgatelaw29.OrderChecks', WHERE WHAT IT READS IS OF BULK AT MOST 1048576: true; the input reads as it did. -/
def orderChecksUptoRow : OpenClaim := { program := "ytjapnklocibgaaa", sum := "fce8299d7e1a91b5460da3a03d6842ff4efba51a1bf0065bc5212018f83f245d", func := "testgate/testgatelaw29.OrderChecks", spec := "orderChecks", unfollowed := true, recurses := true, apart := false, narrowed := true }
def OrderChecksUptoSaid : Prop := orderChecksUptoRow.holds Try.pinned (OpenSpec.upto orderChecksSpec)

/-- 'testgatelaw29.OrderCounts', WHERE WHAT IT READS IS OF BULK AT MOST 1048576: true; the input reads as it did. -/
def orderCountsUptoRow : OpenClaim := { program := "ytjapnklocibgaaa", sum := "fce8299d7e1a91b5460da3a03d6842ff4efba51a1bf0065bc5212018f83f245d", func := "testgate/testgatelaw29.OrderCounts", spec := "orderCounts", unfollowed := true, recurses := true, apart := false, narrowed := true }
def OrderCountsUptoSaid : Prop := orderCountsUptoRow.holds Try.pinned (OpenSpec.upto orderCountsSpec)

/-- 'testgatelaw29.OrderBudgets', WHERE WHAT IT READS IS OF BULK AT MOST 1048576: true; the input reads as it did. -/
def orderBudgetsUptoRow : OpenClaim := { program := "ytjapnklocibgaaa", sum := "fce8299d7e1a91b5460da3a03d6842ff4efba51a1bf0065bc5212018f83f245d", func := "testgate/testgatelaw29.OrderBudgets", spec := "orderBudgets", unfollowed := true, recurses := true, apart := false, narrowed := true }
def OrderBudgetsUptoSaid : Prop := orderBudgetsUptoRow.holds Try.pinned (OpenSpec.upto orderBudgetsSpec)

end Rows
end Go.Proofs.Ytjapnklocibgaaa
