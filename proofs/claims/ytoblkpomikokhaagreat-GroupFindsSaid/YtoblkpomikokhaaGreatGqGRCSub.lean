/- Part 23 of the texts of this claim: a symbolic executor and contracts of functions. -/
import Derived.Test.YtoblkpomikokhaaGreatGqGRCLst
namespace Go.Proofs.YtoblkpomikokhaaGreat.Sx
open Go Go.RowKit
set_option linter.unusedVariables false
set_option linter.unusedSimpArgs false
set_option maxRecDepth 100000
set_option maxHeartbeats 8000000
attribute [local congr] fin_congr finG_congr stepG_congr step1_congr runOps_congr brv_congr obl_congr condK_congr LoopK_congr seqK_congr CutK_congr vc_congr DrawK_congr regK_congr CallK_congr AskK_congr newK_congr retC_congr ret1_congr retK_congr outV_congr closeK_congr genR_congr appR_congr finD_congr finGD_congr stepGD_congr stepD_congr CallK0_congr runD_congr okR_congr CallS_congr vcX_congr
attribute [local congr] Stop_congr
theorem neK{a b:Nat}(h:a≠b):((a=b)=False)∧((b=a)=False)∧((a==b)=false)∧((b==a)=false):=by
 have h2:=Ne.symm h
 simp[h,h2]
section
variable {M:Mem}{K:AV→Hp→Mem→Prop}
theorem one_ok(k j:Nat)(hkj:k≠j)(u:Value)(l:List Int)(p:Nat)(L:List Bst)(T:TypeId)(n:Nat)(hn:n=L.length)(hu:IsL M intV64 u l)(hp:p<1000000)(h0:0<L.length)(hL:L.length<1000)
  (hK:∀i (h:i<L.length),K (.ext (sbV L[i])) [(k,25,[.ext u,.ext (.int .i64 ((p+1:Nat):Int))]),(j,T,cE sbV L)] M) :
  CallS Tryz.prog 16 [.own k 0,.slo j 0 n 1] [(j,T,cE sbV L),(k,25,[.ext u,.ext (.int .i64 (p:Int))])] M [] K:=by
 subst hn
 refine inlS (cs:=[]) (f:=16) Tryz.mixed Tryz.func16 rfl (by kernel_rfl) (k+j+1) rfl (by simp[ltB,keysH];omega) ?_
 simp only[Tryz.f16]
 have e:=neK hkj
 have hb:=foldI_bd1 (tapeV l p) (L.length:Int) (by omega) (by omega)
 obtain ⟨q,hq⟩:=Int.eq_ofNat_of_zero_le hb.1
 have hql:q<L.length:=by omega
 have d0:decide ((L.length:Int)=0)=false:=by rw[decide_eq_false_iff_not];omega
 have d1:(0:Int)≤(q:Int):=by omega
 have d2:(q:Int)<(L.length:Int):=by omega
 have g1:(cE sbV L)[q]? = some (.ext (sbV L[q])):=by simp[cE,hql]
 (replace hb0:=true_and True);refine Go1.mk ?_;repeat' ((first|(with_reducible refine Go1.go ?_)|((with_reducible first|refine brv_mk ?_ ?_|refine gsplitD ?_ ?_|refine gsplitG ?_ ?_)<;>intro h<;>(try simp only[Bool.not_eq_true',Bool.not_eq_false']at h)<;>replace hb0:=h)|((with_reducible refine isCall (f:=8) ?_);refine callA ?_)|((with_reducible refine isCallS (f:=8) ?_);refine (next_ok k u l p _ hu (by exact Nat.lt_trans hp (by decide)) ?_))|(refine And.intro ?_ ?_;(try simp only[sxO]at *);omega)|fail)<;>(try simp (maxSteps:=1000000) only [hb0,d0,d1,d2,hq,g1,Nat.mul_one,cE_ment,hasK_nil,hu.one,e,↓hold_pre,awayP,runOps,regK,step1,newK,genR,appR,obl,buildR,Value.cells,closeK,keepH,outV,retK,ret1,retC,RetV,Option.getD,runD,stepD,afterK,undef,simprocAttr,sxB,↓sxD,sxE,sxTab]))
 exact hK q hql
end
end Go.Proofs.YtoblkpomikokhaaGreat.Sx
