/- Part 18 of the texts of this claim: a symbolic executor and contracts of functions. -/
import Derived.Test.YtiipiciemgdaeaaGreatCvTRCMak
import Derived.Lib.Builder
import Derived.Laws.Strings
namespace Go.Proofs.YtiipiciemgdaeaaGreat.Sx
open Go Go.RowKit
set_option linter.unusedVariables false
set_option linter.unusedSimpArgs false
set_option maxRecDepth 100000
set_option maxHeartbeats 8000000
attribute [local congr] fin_congr finG_congr stepG_congr step1_congr runOps_congr brv_congr obl_congr condK_congr LoopK_congr seqK_congr CutK_congr vc_congr DrawK_congr regK_congr CallK_congr AskK_congr newK_congr retC_congr ret1_congr retK_congr outV_congr closeK_congr genR_congr appR_congr finD_congr finGD_congr stepGD_congr stepD_congr CallK0_congr runD_congr okR_congr CallS_congr vcX_congr
def bs(l:List UInt8):ByteArray:=⟨l.toArray⟩
theorem cE_kill{α:Type}(k:Nat)(g:α→Value)(l:List α):killL k (cE g l)=cE g l:=by
 unfold cE
 generalize l.map g=vs
 induction vs with
 | nil=>rfl
 | cons v r ih=>simp only[List.map_cons,killL,AV.kill,ih]
end Go.Proofs.YtiipiciemgdaeaaGreat.Sx
