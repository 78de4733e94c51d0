/- Part 17 of the texts of this claim: a symbolic executor and contracts of functions. -/
import Derived.Test.YtamghpnjdohnjaaDoorFsBCBor
namespace Go.Proofs.YtamghpnjdohnjaaDoor.Sx
open Go Go.RowKit
set_option linter.unusedVariables false
set_option linter.unusedSimpArgs false
set_option maxRecDepth 100000
set_option maxHeartbeats 8000000
attribute [local congr] fin_congr finG_congr stepG_congr step1_congr runOps_congr brv_congr obl_congr condK_congr LoopK_congr seqK_congr CutK_congr vc_congr DrawK_congr regK_congr CallK_congr AskK_congr newK_congr retC_congr ret1_congr retK_congr outV_congr closeK_congr genR_congr appR_congr finD_congr finGD_congr stepGD_congr stepD_congr CallK0_congr runD_congr okR_congr CallS_congr vcX_congr
structure Stop (p : Prop) : Prop where
  intro ::
  get : p
theorem Stop_congr (p : Prop) : Stop p = Stop p := rfl
theorem Stop.mk {p : Prop} (h : Stop p) : p := h.get
theorem Stop.go {p : Prop} (h : p) : Stop p := ⟨h⟩
theorem keepLt0 {z : Hp} : ∀ h : Hp, keepLt 0 z h
  | [] => trivial
  | (_, _) :: r => ⟨.inl (Nat.zero_le _), keepLt0 r⟩
def boolV1 (b : Bool) : Value := .bool b
def cE {α : Type} (g : α → Value) (l : List α) : List AV := (l.map g).map .ext
theorem cE_len {α : Type} (g : α → Value) (l : List α) : (cE g l).length = l.length := by simp [cE]
theorem cE_ment {α : Type} (g : α → Value) (l : List α) : mentL (cE g l) = [] := mentL_ext _
theorem cE_snoc {α : Type} (g : α → Value) (l : List α) (x : α) : cE g l ++ [.ext (g x)] = cE g (l ++ [x]) := by simp [cE]
theorem hasK_nil (k : Nat) : hasK k [] = false := rfl
theorem wrap_id {x : Int} (h1 : -9223372036854775808 ≤ x) (h2 : x ≤ 9223372036854775807) : IntKind.i64.wrap x = x := IntWalk.i64_in _ ⟨h1, h2⟩
section
variable {M : Mem} {K : AV → Hp → Mem → Prop}
end
end Go.Proofs.YtamghpnjdohnjaaDoor.Sx
