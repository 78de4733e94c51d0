/- Part 22 of the texts of this claim: a symbolic executor and contracts of functions. -/
import Derived.Test.YtgkfmlgfmcpebaaSLhRCPar
import Derived.Test.YtgkfmlgfmcpebaaSLhRCNatB
namespace Go.Proofs.Ytgkfmlgfmcpebaa.Sx
open Go Go.RowKit
set_option linter.unusedVariables false
set_option linter.unusedSimpArgs false
set_option maxRecDepth 100000
set_option maxHeartbeats 8000000
attribute [local congr] fin_congr finG_congr stepG_congr step1_congr runOps_congr brv_congr obl_congr condK_congr LoopK_congr seqK_congr CutK_congr vc_congr DrawK_congr regK_congr CallK_congr AskK_congr newK_congr retC_congr ret1_congr retK_congr outV_congr closeK_congr genR_congr appR_congr finD_congr finGD_congr stepGD_congr stepD_congr CallK0_congr runD_congr okR_congr CallS_congr vcX_congr
attribute [local congr] Stop_congr
theorem wrap64 (n : Nat) : IntKind.u64.wrap (n : Int) = ((n % 18446744073709551616 : Nat) : Int) := by
  show (n : Int) % 18446744073709551616 = _
  omega
theorem wrap64_id {n : Nat} (h : n < 18446744073709551616) : IntKind.u64.wrap (n : Int) = (n : Int) := by rw [wrap64, Nat.mod_eq_of_lt h]
theorem succ_i {j : Nat} (h2 : j < 9223372036854775807) : IntKind.i64.wrap ((j : Int) + 1) = ((j + 1 : Nat) : Int) := by rw [wrap_id (by omega) (by omega)]; omega
section
variable {M : Mem} {K : AV → Hp → Mem → Prop}
end
end Go.Proofs.Ytgkfmlgfmcpebaa.Sx
