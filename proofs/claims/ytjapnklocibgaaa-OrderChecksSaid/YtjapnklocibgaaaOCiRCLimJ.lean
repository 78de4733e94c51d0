/- Part 31 of the texts of this claim: a symbolic executor and contracts of functions. -/
import Derived.Test.YtjapnklocibgaaaOCiRCLimI
namespace Go.Proofs.Ytjapnklocibgaaa.Sx
open Go Go.RowKit
set_option linter.unusedVariables false
set_option linter.unusedSimpArgs false
set_option maxRecDepth 100000
set_option maxHeartbeats 8000000
attribute [local congr] fin_congr finG_congr stepG_congr step1_congr runOps_congr brv_congr obl_congr condK_congr LoopK_congr seqK_congr CutK_congr vc_congr DrawK_congr regK_congr CallK_congr AskK_congr newK_congr retC_congr ret1_congr retK_congr outV_congr closeK_congr genR_congr appR_congr finD_congr finGD_congr stepGD_congr stepD_congr CallK0_congr runD_congr okR_congr CallS_congr vcX_congr
attribute [local congr] Stop_congr
section
variable {M:Mem}{K:AV→Hp→Mem→Prop}
def gcSt(M:Mem)(u v:Value):St:={env:=[(0,.ext u),(1,.ext v)],hp:=[],M:=M,kb:=0,fx:=[]}
theorem gcd_ok(u v:Value)(x y:Nat)(hu:IsL M u32V u (ofN x))(hv:IsL M u32V v (ofN y))(hx:(ofN x).length<10000000)(hy:(ofN y).length<10000000)(hK:NatK M K (Nat.gcd x y)):CallS Try.prog 63 [.ext u,.ext v] [] M [] K:=by
 refine inlS (cs:=[]) Try.mixed Try.func63 rfl (by kernel_rfl) 0 rfl rfl ?_
 simp only[Try.f63]
 refine Go1.mk ?_;repeat' ((first|(with_reducible refine Go1.go ?_)|(refine And.intro ?_ ?_;(try simp only[sxO]at *);omega)|fail)<;>(try simp (maxSteps:=1000000) only [cE_ment,hasK_nil,cE_kill,cE_len,u32_one,u32_app1,u32_set,Nat.mul_one,hu.one,hv.one,↓hold_pre,awayP,runOps,regK,step1,newK,genR,appR,obl,buildR,Value.cells,closeK,keepH,outV,retK,ret1,retC,RetV,Option.getD,runD,stepD,afterK,undef,simprocAttr,sxB,↓sxD,sxE,sxTab]))
 refine ⟨fun d z=>∃M' u v a b,b=d∧Mem.le M M'∧IsL M' u32V u (ofN a)∧IsL M' u32V v (ofN b)∧(ofN a).length<10000000∧(ofN b).length<10000000∧Nat.gcd a b=Nat.gcd x y∧z=gcSt M' u v,
  ⟨y,gcSt M u v,le_sub ⟨rfl,rfl,trivial⟩ trivial rfl rfl rfl (keepLt0 _),⟨M,u,v,x,y,rfl,Mem.le.refl _,hu,hv,hx,hy,rfl,rfl⟩⟩,?_⟩
 clear hu hv
 rintro d z ⟨M1,u,v,a,b,rfl,hM1,hu,hv,ha,hb,hg,rfl⟩
 by_cases hlt:0<(ofN b).length
 case neg=>
  have hl0:(ofN b).length=0:=by omega
  have d1:decide ((0:Int)<((ofN b).length:Int))=false:=by rw[hl0];rfl
  have hb0:b=0:=ofN_nil.1 (List.length_eq_zero_iff.1 hl0)
  subst hb0
  rw[Nat.gcd_zero_right]at hg
  rw[←hg]at hK
  refine Go1.mk ?_;repeat' ((first|(with_reducible refine Go1.go ?_)|(((with_reducible refine isCall (f:=81) ?_);refine callA_nil (by kernel_rfl) ?_;refine (clone_ok u (ofN a) hu (by omega) (fun w M' h1 h2 h3=>?_))))|(refine And.intro ?_ ?_;(try simp only[sxO]at *);omega)|fail)<;>(try simp (maxSteps:=1000000) only [cE_ment,hasK_nil,cE_kill,cE_len,u32_one,u32_app1,u32_set,Nat.mul_one,gcSt,d1,hu.one,hv.one,hv.len,hv.sl,↓hold_pre,awayP,runOps,regK,step1,newK,genR,appR,obl,buildR,Value.cells,closeK,keepH,outV,retK,ret1,retC,RetV,Option.getD,runD,stepD,afterK,undef,simprocAttr,sxB,↓sxD,sxE,sxTab]))
  exact hK _ _ (hM1.trans h1) h2 (h3.le hM1)
 have d1:decide ((0:Int)<((ofN b).length:Int))=true:=by simp;omega
 have hbp:0<b:=by
  rcases Nat.eq_zero_or_pos b with h|h
  ·subst h;rw[ofN_zero]at hlt;simp at hlt
  ·exact h
 have hlt2:=Nat.mod_lt a hbp
 have hlen:=len_mono (Nat.le_of_lt hlt2)
 refine Go1.mk ?_;repeat' ((first|(with_reducible refine Go1.go ?_)|(((with_reducible refine isCall (f:=64) ?_);refine callA_nil (by kernel_rfl) ?_;refine (divide_ok u v a b hu hv ha hb hbp (fun q r M' h1 h2 h3 h4 h5=>Stop.mk ?_))))|(refine And.intro ?_ ?_;(try simp only[sxO]at *);omega)|fail)<;>(try simp (maxSteps:=1000000) only [cE_ment,hasK_nil,cE_kill,cE_len,u32_one,u32_app1,u32_set,Nat.mul_one,gcSt,d1,hu.one,hv.one,hv.len,hv.sl,↓hold_pre,awayP,runOps,regK,step1,newK,genR,appR,obl,buildR,Value.cells,closeK,keepH,outV,retK,ret1,retC,RetV,Option.getD,runD,stepD,afterK,undef,simprocAttr,sxB,↓sxD,sxE,sxTab]))
 refine Stop.go ?_
 refine Go1.mk ?_;repeat' ((first|(with_reducible refine Go1.go ?_)|(refine And.intro ?_ ?_;(try simp only[sxO]at *);omega)|fail)<;>(try simp (maxSteps:=1000000) only [cE_ment,hasK_nil,cE_kill,cE_len,u32_one,u32_app1,u32_set,Nat.mul_one,gcSt,d1,hu.one,hv.one,hv.len,hv.sl,h2.one,h3.one,↓hold_pre,awayP,runOps,regK,step1,newK,genR,appR,obl,buildR,Value.cells,closeK,keepH,outV,retK,ret1,retC,RetV,Option.getD,runD,stepD,afterK,undef,simprocAttr,sxB,↓sxD,sxE,sxTab]))
 exact ⟨a % b,gcSt M' v r,by omega,le_sub ⟨rfl,rfl,trivial⟩ trivial rfl rfl rfl (keepLt0 _),M',v,r,b,a % b,rfl,hM1.trans h1,hv.le h1,h3,hb,by omega,by
  rw[←hg,Nat.gcd_comm b,←Nat.gcd_rec,Nat.gcd_comm],rfl⟩
end
end Go.Proofs.Ytjapnklocibgaaa.Sx
