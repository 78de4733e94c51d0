/- Part 34 of the texts of this claim: a symbolic executor and contracts of functions. -/
import Derived.Test.YtjapnklocibgaaaOCiRCLimJ
import Derived.Test.YtjapnklocibgaaaOCiRCBld
import Derived.Test.YtjapnklocibgaaaOCiRCRow
import Derived.Shelf.Small.Strs
import Derived.Test.YtjapnklocibgaaaProg
namespace Go.Proofs.Ytjapnklocibgaaa.Sx
open Go Go.RowKit
set_option linter.unusedVariables false
set_option linter.unusedSimpArgs false
set_option maxRecDepth 100000
set_option maxHeartbeats 8000000
attribute [local congr] fin_congr finG_congr stepG_congr step1_congr runOps_congr brv_congr obl_congr condK_congr LoopK_congr seqK_congr CutK_congr vc_congr DrawK_congr regK_congr CallK_congr AskK_congr newK_congr retC_congr ret1_congr retK_congr outV_congr closeK_congr genR_congr appR_congr finD_congr finGD_congr stepGD_congr stepD_congr CallK0_congr runD_congr okR_congr CallS_congr vcX_congr
attribute [local congr] Stop_congr
def chkN(l:List Nat):Bool:=decide (l.length≤128)&&(decide (l.length=0) || !decide (l.getD (l.length-1) 0=0))
theorem chkN_ok{l:List Nat}(ho:okN l)(h:chkN l=true):l=ofN (valN l)∧l.length≤128:=by
 simp only[chkN,Bool.and_eq_true,Bool.or_eq_true,decide_eq_true_eq,Bool.not_eq_true',decide_eq_false_iff_not]at h
 refine ⟨canon ho fun hl=>?_,h.1⟩
 have h2:=h.2.resolve_left (by omega)
 simpa [List.getD,show l.length-1<l.length by omega] using h2
theorem chkN_ofN{n:Nat}(h:(ofN n).length≤128):chkN (ofN n)=true:=by
 simp only[chkN,Bool.and_eq_true,Bool.or_eq_true,decide_eq_true_eq,Bool.not_eq_true',decide_eq_false_iff_not]
 refine ⟨h,?_⟩
 rcases Nat.eq_zero_or_pos (ofN n).length with h1|h1
 ·exact .inl h1
 ·right
  have:=trimmed_ofN n h1
  simpa [List.getD,show (ofN n).length-1<(ofN n).length by omega] using this
section
variable {M:Mem}{K:AV→Hp→Mem→Prop}
theorem check_ok(u:Value)(l:List Nat)(hu:IsL M u32V u l)(hb:l.length<1000000000)(hK:K (.ext (.bool (chkN l))) [] M):CallS Try.prog 62 [.ext u] [] M [] K:=by
 refine inlS (cs:=[]) Try.mixed Try.func62 rfl (by kernel_rfl) 0 rfl rfl ?_
 simp only[Try.f62]
 by_cases h1:l.length≤128
 ·have d1:decide ((l.length:Int)≤128)=true:=by simp;omega
  by_cases h2:l.length=0
  ·have d2:decide ((l.length:Int)=0)=true:=by rw[h2];rfl
   rw[show chkN l=true by simp[chkN,h1,h2]]at hK
   refine Go1.mk ?_;repeat' ((first|(with_reducible refine Go1.go ?_)|(refine And.intro ?_ ?_;(try simp only[sxO]at *);omega)|fail)<;>(try simp (maxSteps:=1000000) only [cE_ment,hasK_nil,cE_kill,cE_len,u32_one,u32_app1,u32_set,Nat.mul_one,hu.one,hu.len,hu.sl,d1,d2,↓hold_pre,awayP,runOps,regK,step1,newK,genR,appR,obl,buildR,Value.cells,closeK,keepH,outV,retK,ret1,retC,RetV,Option.getD,runD,stepD,afterK,undef,simprocAttr,sxB,↓sxD,sxE,sxTab]))
   exact hK
  ·have d2:decide ((l.length:Int)=0)=false:=by rw[decide_eq_false_iff_not];omega
   have hi:=hu.idx (P:=Try.prog) (T:=55) tk55 tz55 (by omega) (show l.length-1<l.length by omega)
   have w1:IntKind.i64.wrap ((l.length:Int)-1)=((l.length-1:Nat):Int):=pred_i (by omega) (by omega)
   have hc:chkN l = !decide ((l[l.length-1]'(by omega):Int)=0):=by
    have e:decide ((l[l.length-1]'(by omega):Int)=0)=decide (l[l.length-1]'(by omega)=0):=by
     rw[decide_eq_decide];omega
    rw[e]
    simp[chkN,h1,h2,List.getD,show l.length-1<l.length by omega]
   rw[hc]at hK
   refine Go1.mk ?_;repeat' ((first|(with_reducible refine Go1.go ?_)|(refine And.intro ?_ ?_;(try simp only[sxO]at *);omega)|fail)<;>(try simp (maxSteps:=1000000) only [cE_ment,hasK_nil,cE_kill,cE_len,u32_one,u32_app1,u32_set,Nat.mul_one,u32V,hu.one,hu.len,hu.sl,d1,d2,hi,w1,↓hold_pre,awayP,runOps,regK,step1,newK,genR,appR,obl,buildR,Value.cells,closeK,keepH,outV,retK,ret1,retC,RetV,Option.getD,runD,stepD,afterK,undef,simprocAttr,sxB,↓sxD,sxE,sxTab]))
   exact hK
 ·have d1:decide ((l.length:Int)≤128)=false:=by simp;omega
  rw[show chkN l=false by simp[chkN,h1]]at hK
  refine Go1.mk ?_;repeat' ((first|(with_reducible refine Go1.go ?_)|(refine And.intro ?_ ?_;(try simp only[sxO]at *);omega)|fail)<;>(try simp (maxSteps:=1000000) only [cE_ment,hasK_nil,cE_kill,cE_len,u32_one,u32_app1,u32_set,Nat.mul_one,hu.one,hu.len,hu.sl,d1,↓hold_pre,awayP,runOps,regK,step1,newK,genR,appR,obl,buildR,Value.cells,closeK,keepH,outV,retK,ret1,retC,RetV,Option.getD,runD,stepD,afterK,undef,simprocAttr,sxB,↓sxD,sxE,sxTab]))
  exact hK
end
end Go.Proofs.Ytjapnklocibgaaa.Sx
namespace Go.Proofs.Ytjapnklocibgaaa.Sx
open Go Go.RowKit
set_option linter.unusedVariables false
set_option linter.unusedSimpArgs false
set_option maxRecDepth 100000
set_option maxHeartbeats 8000000
attribute [local congr] fin_congr finG_congr stepG_congr step1_congr runOps_congr brv_congr obl_congr condK_congr LoopK_congr seqK_congr CutK_congr vc_congr DrawK_congr regK_congr CallK_congr AskK_congr newK_congr retC_congr ret1_congr retK_congr outV_congr closeK_congr genR_congr appR_congr finD_congr finGD_congr stepGD_congr stepD_congr CallK0_congr runD_congr okR_congr CallS_congr vcX_congr
attribute [local congr] Stop_congr
def NatR(M:Mem)(K:AV→Hp→Mem→Prop)(r:Int×List Nat):Prop:=∀w M',Mem.le M M'→IsL M' u32V w r.2→FreshS M w→K (.ext (.tuple #[w,.int .i64 r.1])) [] M'
def limR(n:Nat):Int×List Nat:=if (ofN n).length≤128 then (0,ofN n) else (2,[])
section
variable {M:Mem}{K:AV→Hp→Mem→Prop}
theorem NatR.err(e:Int)(h:NatR M K (e,[])):K (.ext (.tuple #[.slice none 0 0,.int .i64 e])) [] M:=h _ _ (Mem.le.refl _) (isL_nil _ _ _) (freshS_nil _ _)
theorem natOf_ok(n:Nat)(hn:n<18446744073709551616)(hK:NatK M K n):CallS Try.prog 79 [.ext (.int .u64 (n:Int))] [] M [] K:=by
 refine inlS (cs:=[]) Try.mixed Try.func79 rfl (by kernel_rfl) 0 rfl rfl ?_
 simp only[Try.f79]
 refine Go1.mk ?_;repeat' ((first|(with_reducible refine Go1.go ?_)|(((with_reducible refine isCall (f:=83) ?_);refine callA_nil (by kernel_rfl) ?_;refine (of_ok n hn (fun w M' h1 h2 h3=>Stop.mk ?_))))|(refine And.intro ?_ ?_;(try simp only[sxO]at *);omega)|fail)<;>(try simp (maxSteps:=1000000) only [↓hold_pre,awayP,runOps,regK,step1,newK,genR,appR,obl,buildR,Value.cells,closeK,keepH,outV,retK,ret1,retC,RetV,Option.getD,runD,stepD,afterK,undef,simprocAttr,sxB,↓sxD,sxE,sxTab]))
 refine Stop.go ?_
 refine Go1.mk ?_;repeat' ((first|(with_reducible refine Go1.go ?_)|(refine And.intro ?_ ?_;(try simp only[sxO]at *);omega)|fail)<;>(try simp (maxSteps:=1000000) only [h2.one,↓hold_pre,awayP,runOps,regK,step1,newK,genR,appR,obl,buildR,Value.cells,closeK,keepH,outV,retK,ret1,retC,RetV,Option.getD,runD,stepD,afterK,undef,simprocAttr,sxB,↓sxD,sxE,sxTab]))
 exact hK _ _ h1 h2 h3
theorem NatR.lim{n:Nat}{w:Value}{M1:Mem}{MM:Mem}{KK:AV→Hp→Mem→Prop}(h:NatR MM KK (limR n))(h1:Mem.le MM M1)(h2:IsL M1 u32V w (ofN n))(h3:FreshS MM w) :
  ((ofN n).length≤128→KK (.ext (.tuple #[w,.int .i64 0])) [] M1)∧(128<(ofN n).length→KK (.ext (.tuple #[.slice none 0 0,.int .i64 2])) [] M1):=by
 unfold limR at h
 constructor
 ·intro hl;rw[if_pos hl]at h;exact h _ _ h1 h2 h3
 ·intro hl;rw[if_neg (by omega)]at h;exact h _ _ h1 (isL_nil _ _ _) (freshS_nil _ _)
variable {u v:Value}{l1 l2:List Nat}
def NatD(M:Mem)(K:AV→Hp→Mem→Prop)(r:Int×List Nat×List Nat):Prop:=∀q w M',Mem.le M M'→IsL M' u32V q r.2.1→IsL M' u32V w r.2.2→FreshS M q→FreshS M w→K (.ext (.tuple #[q,w,.int .i64 r.1])) [] M'
theorem NatD.err(e:Int)(h:NatD M K (e,[],[])):K (.ext (.tuple #[.slice none 0 0,.slice none 0 0,.int .i64 e])) [] M:=h _ _ _ (Mem.le.refl _) (isL_nil _ _ _) (isL_nil _ _ _) (freshS_nil _ _) (freshS_nil _ _)
end
end Go.Proofs.Ytjapnklocibgaaa.Sx
namespace Go.Proofs.Ytjapnklocibgaaa.Sx
open Go Go.RowKit
set_option linter.unusedVariables false
set_option linter.unusedSimpArgs false
set_option maxRecDepth 100000
set_option maxHeartbeats 8000000
attribute [local congr] fin_congr finG_congr stepG_congr step1_congr runOps_congr brv_congr obl_congr condK_congr LoopK_congr seqK_congr CutK_congr vc_congr DrawK_congr regK_congr CallK_congr AskK_congr newK_congr retC_congr ret1_congr retK_congr outV_congr closeK_congr genR_congr appR_congr finD_congr finGD_congr stepGD_congr stepD_congr CallK0_congr runD_congr okR_congr CallS_congr vcX_congr
attribute [local congr] Stop_congr
theorem wN_two(i:Nat):wN i=2^(32*i):=by unfold wN;rw[Nat.pow_mul]
section
variable {M:Mem}{K:AV→Hp→Mem→Prop}
theorem rcheck_ok(u:Value)(l:List Nat)(hu:IsL M u32V u l)(hb:l.length<1000000000)(hK:K (.ext (.bool (chkN l))) [] M):CallS Try.prog 69 [.ext u] [] M [] K:=by
 refine inlS (cs:=[]) Try.mixed Try.func69 rfl (by kernel_rfl) 0 rfl rfl ?_
 simp only[Try.f69]
 by_cases h1:l.length≤128
 ·have d1:decide ((l.length:Int)≤128)=true:=by simp;omega
  by_cases h2:l.length=0
  ·have d2:decide ((l.length:Int)=0)=true:=by rw[h2];rfl
   rw[show chkN l=true by simp[chkN,h1,h2]]at hK
   refine Go1.mk ?_;repeat' ((first|(with_reducible refine Go1.go ?_)|(refine And.intro ?_ ?_;(try simp only[sxO]at *);omega)|fail)<;>(try simp (maxSteps:=1000000) only [cE_ment,hasK_nil,cE_kill,cE_len,u32_one,u32_app1,u32_set,Nat.mul_one,hu.one,hu.len,hu.sl,d1,d2,↓hold_pre,awayP,runOps,regK,step1,newK,genR,appR,obl,buildR,Value.cells,closeK,keepH,outV,retK,ret1,retC,RetV,Option.getD,runD,stepD,afterK,undef,simprocAttr,sxB,↓sxD,sxE,sxTab]))
   exact hK
  ·have d2:decide ((l.length:Int)=0)=false:=by rw[decide_eq_false_iff_not];omega
   have hi:=hu.idx (P:=Try.prog) (T:=55) tk55 tz55 (by omega) (show l.length-1<l.length by omega)
   have w1:IntKind.i64.wrap ((l.length:Int)-1)=((l.length-1:Nat):Int):=pred_i (by omega) (by omega)
   have hc:chkN l = !decide ((l[l.length-1]'(by omega):Int)=0):=by
    have e:decide ((l[l.length-1]'(by omega):Int)=0)=decide (l[l.length-1]'(by omega)=0):=by
     rw[decide_eq_decide];omega
    rw[e]
    simp[chkN,h1,h2,List.getD,show l.length-1<l.length by omega]
   rw[hc]at hK
   refine Go1.mk ?_;repeat' ((first|(with_reducible refine Go1.go ?_)|(refine And.intro ?_ ?_;(try simp only[sxO]at *);omega)|fail)<;>(try simp (maxSteps:=1000000) only [cE_ment,hasK_nil,cE_kill,cE_len,u32_one,u32_app1,u32_set,Nat.mul_one,u32V,hu.one,hu.len,hu.sl,d1,d2,hi,w1,↓hold_pre,awayP,runOps,regK,step1,newK,genR,appR,obl,buildR,Value.cells,closeK,keepH,outV,retK,ret1,retC,RetV,Option.getD,runD,stepD,afterK,undef,simprocAttr,sxB,↓sxD,sxE,sxTab]))
   exact hK
 ·have d1:decide ((l.length:Int)≤128)=false:=by simp;omega
  rw[show chkN l=false by simp[chkN,h1]]at hK
  refine Go1.mk ?_;repeat' ((first|(with_reducible refine Go1.go ?_)|(refine And.intro ?_ ?_;(try simp only[sxO]at *);omega)|fail)<;>(try simp (maxSteps:=1000000) only [cE_ment,hasK_nil,cE_kill,cE_len,u32_one,u32_app1,u32_set,Nat.mul_one,hu.one,hu.len,hu.sl,d1,↓hold_pre,awayP,runOps,regK,step1,newK,genR,appR,obl,buildR,Value.cells,closeK,keepH,outV,retK,ret1,retC,RetV,Option.getD,runD,stepD,afterK,undef,simprocAttr,sxB,↓sxD,sxE,sxTab]))
  exact hK
def rcSt(M:Mem)(u v:Value)(j:Nat):St:={env:=[(5,.ext (.int .i64 ((j:Int)-1))),(0,.ext u),(1,.ext v)],hp:=[],M:=M,kb:=0,fx:=[]}
theorem rorder_ok(u v:Value)(x y:Nat)(hu:IsL M u32V u (ofN x))(hv:IsL M u32V v (ofN y))(hx:(ofN x).length<100000000)(hy:(ofN y).length<100000000)(hK:K (.ext (.int .i64 (cmpN x y))) [] M):CallS Try.prog 70 [.ext u,.ext v] [] M [] K:=by
 refine inlS (cs:=[]) Try.mixed Try.func70 rfl (by kernel_rfl) 0 rfl rfl ?_
 simp only[Try.f70]
 generalize hl:(ofN x).length=la at *
 generalize hm:(ofN y).length=lb at *
 by_cases hne:la=lb
 case neg=>
  have d1:decide ((la:Int)=(lb:Int))=false:=by simp;omega
  by_cases hlt:la<lb
  ·have d2:decide ((la:Int)<(lb:Int))=true:=by simp;omega
   rw[cmpN_lt (len_lt (by omega))]at hK
   refine Go1.mk ?_;repeat' ((first|(with_reducible refine Go1.go ?_)|((with_reducible refine isDraw [some 23,some 24,some 25,some 26,some 27,some 28,some 29,some 30,some 31] (by decide) ?_);refine draw_rule [(0,[]),(1,[]),(2,[]),(3,[]),(4,[3]),(5,[3]),(6,[3]),(7,[3]),(8,[])] [[],[],[0,1],[0,1,2],[],[],[4,5],[4,5,6],[0,1,2,3,4,5,6,7]] [23,24,25,26,27,28,29,30] [] (by kernel_rfl) (by kernel_rfl) (by kernel_rfl) (by kernel_rfl) (by exact trivial) ?_)|((with_reducible refine isDraw [some 32,some 33,some 34,some 35,some 36,some 37,some 38,some 39,some 40] (by decide) ?_);refine draw_rule [(0,[]),(1,[]),(2,[]),(3,[]),(4,[3]),(5,[3]),(6,[3]),(7,[3]),(8,[])] [[],[],[0,1],[0,1,2],[],[],[4,5],[4,5,6],[0,1,2,3,4,5,6,7]] [32,33,34,35,36,37,38,39] [] (by kernel_rfl) (by kernel_rfl) (by kernel_rfl) (by kernel_rfl) (by exact trivial) ?_)|(refine And.intro ?_ ?_;(try simp only[sxO]at *);omega)|fail)<;>(try simp (maxSteps:=1000000) only [cE_ment,hasK_nil,cE_kill,cE_len,u32_one,u32_app1,u32_set,Nat.mul_one,hu.one,hv.one,hu.len,hu.sl,hl,hv.len,hv.sl,hm,d1,d2,↓hold_pre,awayP,runOps,regK,step1,newK,genR,appR,obl,buildR,Value.cells,closeK,keepH,outV,retK,ret1,retC,RetV,Option.getD,runD,stepD,afterK,undef,simprocAttr,sxB,↓sxD,sxE,sxTab]))
   exact hK
  ·have d2:decide ((la:Int)<(lb:Int))=false:=by simp;omega
   rw[cmpN_gt (len_lt (by omega))]at hK
   refine Go1.mk ?_;repeat' ((first|(with_reducible refine Go1.go ?_)|((with_reducible refine isDraw [some 23,some 24,some 25,some 26,some 27,some 28,some 29,some 30,some 31] (by decide) ?_);refine draw_rule [(0,[]),(1,[]),(2,[]),(3,[]),(4,[3]),(5,[3]),(6,[3]),(7,[3]),(8,[])] [[],[],[0,1],[0,1,2],[],[],[4,5],[4,5,6],[0,1,2,3,4,5,6,7]] [23,24,25,26,27,28,29,30] [] (by kernel_rfl) (by kernel_rfl) (by kernel_rfl) (by kernel_rfl) (by exact trivial) ?_)|((with_reducible refine isDraw [some 32,some 33,some 34,some 35,some 36,some 37,some 38,some 39,some 40] (by decide) ?_);refine draw_rule [(0,[]),(1,[]),(2,[]),(3,[]),(4,[3]),(5,[3]),(6,[3]),(7,[3]),(8,[])] [[],[],[0,1],[0,1,2],[],[],[4,5],[4,5,6],[0,1,2,3,4,5,6,7]] [32,33,34,35,36,37,38,39] [] (by kernel_rfl) (by kernel_rfl) (by kernel_rfl) (by kernel_rfl) (by exact trivial) ?_)|(refine And.intro ?_ ?_;(try simp only[sxO]at *);omega)|fail)<;>(try simp (maxSteps:=1000000) only [cE_ment,hasK_nil,cE_kill,cE_len,u32_one,u32_app1,u32_set,Nat.mul_one,hu.one,hv.one,hu.len,hu.sl,hl,hv.len,hv.sl,hm,d1,d2,↓hold_pre,awayP,runOps,regK,step1,newK,genR,appR,obl,buildR,Value.cells,closeK,keepH,outV,retK,ret1,retC,RetV,Option.getD,runD,stepD,afterK,undef,simprocAttr,sxB,↓sxD,sxE,sxTab]))
   exact hK
 subst hne
 have d1:decide ((la:Int)=(la:Int))=true:=by simp
 have w1:IntKind.i64.wrap ((la:Int)-1)=(la:Int)-1:=wrap_id (by omega) (by omega)
 refine Go1.mk ?_;repeat' ((first|(with_reducible refine Go1.go ?_)|((with_reducible refine isDraw [some 23,some 24,some 25,some 26,some 27,some 28,some 29,some 30,some 31] (by decide) ?_);refine draw_rule [(0,[]),(1,[]),(2,[]),(3,[]),(4,[3]),(5,[3]),(6,[3]),(7,[3]),(8,[])] [[],[],[0,1],[0,1,2],[],[],[4,5],[4,5,6],[0,1,2,3,4,5,6,7]] [23,24,25,26,27,28,29,30] [] (by kernel_rfl) (by kernel_rfl) (by kernel_rfl) (by kernel_rfl) (by exact trivial) ?_)|((with_reducible refine isDraw [some 32,some 33,some 34,some 35,some 36,some 37,some 38,some 39,some 40] (by decide) ?_);refine draw_rule [(0,[]),(1,[]),(2,[]),(3,[]),(4,[3]),(5,[3]),(6,[3]),(7,[3]),(8,[])] [[],[],[0,1],[0,1,2],[],[],[4,5],[4,5,6],[0,1,2,3,4,5,6,7]] [32,33,34,35,36,37,38,39] [] (by kernel_rfl) (by kernel_rfl) (by kernel_rfl) (by kernel_rfl) (by exact trivial) ?_)|(refine And.intro ?_ ?_;(try simp only[sxO]at *);omega)|fail)<;>(try simp (maxSteps:=1000000) only [cE_ment,hasK_nil,cE_kill,cE_len,u32_one,u32_app1,u32_set,Nat.mul_one,hu.one,hv.one,hu.len,hu.sl,hl,hv.len,hv.sl,hm,d1,w1,↓hold_pre,awayP,runOps,regK,step1,newK,genR,appR,obl,buildR,Value.cells,closeK,keepH,outV,retK,ret1,retC,RetV,Option.getD,runD,stepD,afterK,undef,simprocAttr,sxB,↓sxD,sxE,sxTab]))
 refine ⟨fun m z=>∃j,j=m∧j≤la∧(ofN x).drop j=(ofN y).drop j∧z=rcSt M u v j,
  ⟨la,rcSt M u v la,le_sub ⟨rfl,rfl,rfl,trivial⟩ trivial rfl rfl rfl (keepLt0 _),⟨la,rfl,by omega,by rw[List.drop_of_length_le (by omega),List.drop_of_length_le (by omega)],rfl⟩⟩,?_⟩
 rintro m z ⟨j,rfl,hj,hd,rfl⟩
 by_cases hlt:0<j
 case neg=>
  obtain rfl:j=0:=by omega
  have d2:decide ((0:Int)≤((0:Nat):Int)-1)=false:=by simp
  have e1:x=y:=ofN_inj (by simpa using hd)
  rw[show cmpN x y=0 by unfold cmpN;rw[if_neg (by omega),if_pos e1]]at hK
  refine Go1.mk ?_;repeat' ((first|(with_reducible refine Go1.go ?_)|((with_reducible refine isDraw [some 23,some 24,some 25,some 26,some 27,some 28,some 29,some 30,some 31] (by decide) ?_);refine draw_rule [(0,[]),(1,[]),(2,[]),(3,[]),(4,[3]),(5,[3]),(6,[3]),(7,[3]),(8,[])] [[],[],[0,1],[0,1,2],[],[],[4,5],[4,5,6],[0,1,2,3,4,5,6,7]] [23,24,25,26,27,28,29,30] [] (by kernel_rfl) (by kernel_rfl) (by kernel_rfl) (by kernel_rfl) (by exact trivial) ?_)|((with_reducible refine isDraw [some 32,some 33,some 34,some 35,some 36,some 37,some 38,some 39,some 40] (by decide) ?_);refine draw_rule [(0,[]),(1,[]),(2,[]),(3,[]),(4,[3]),(5,[3]),(6,[3]),(7,[3]),(8,[])] [[],[],[0,1],[0,1,2],[],[],[4,5],[4,5,6],[0,1,2,3,4,5,6,7]] [32,33,34,35,36,37,38,39] [] (by kernel_rfl) (by kernel_rfl) (by kernel_rfl) (by kernel_rfl) (by exact trivial) ?_)|(refine And.intro ?_ ?_;(try simp only[sxO]at *);omega)|fail)<;>(try simp (maxSteps:=1000000) only [cE_ment,hasK_nil,cE_kill,cE_len,u32_one,u32_app1,u32_set,Nat.mul_one,rcSt,hu.one,hv.one,d2,↓hold_pre,awayP,runOps,regK,step1,newK,genR,appR,obl,buildR,Value.cells,closeK,keepH,outV,retK,ret1,retC,RetV,Option.getD,runD,stepD,afterK,undef,simprocAttr,sxB,↓sxD,sxE,sxTab]))
  exact hK
 obtain ⟨i,rfl⟩:∃i,j=i+1:=⟨j-1,by omega⟩
 have ej:(((i+1:Nat):Int)-1)=(i:Int):=by omega
 have hil:i<(ofN x).length:=by omega
 have him:i<(ofN y).length:=by omega
 have hxi:=hu.idx (P:=Try.prog) (T:=55) tk55 tz55 (by omega) hil
 have hyi:=hv.idx (P:=Try.prog) (T:=55) tk55 tz55 (by omega) him
 rw[hl]at hxi
 rw[hm]at hyi
 have d2:decide ((0:Int)≤(i:Int))=true:=by simp
 have w10:IntKind.i64.wrap ((i:Int)-1)=(i:Int)-1:=wrap_id (by omega) (by omega)
 have lt1:=lt_at hil him hd
 have lt2:=lt_at him hil hd.symm
 have hdx:=List.drop_eq_getElem_cons hil
 have hdy:=List.drop_eq_getElem_cons him
 generalize (ofN x)[i]=a at *
 generalize (ofN y)[i]=b at *
 by_cases hab:a=b
 ·have d3:decide ((a:Int)=(b:Int))=true:=by simp;omega
  refine Go1.mk ?_;repeat' ((first|(with_reducible refine Go1.go ?_)|((with_reducible refine isDraw [some 23,some 24,some 25,some 26,some 27,some 28,some 29,some 30,some 31] (by decide) ?_);refine draw_rule [(0,[]),(1,[]),(2,[]),(3,[]),(4,[3]),(5,[3]),(6,[3]),(7,[3]),(8,[])] [[],[],[0,1],[0,1,2],[],[],[4,5],[4,5,6],[0,1,2,3,4,5,6,7]] [23,24,25,26,27,28,29,30] [] (by kernel_rfl) (by kernel_rfl) (by kernel_rfl) (by kernel_rfl) (by exact trivial) ?_)|((with_reducible refine isDraw [some 32,some 33,some 34,some 35,some 36,some 37,some 38,some 39,some 40] (by decide) ?_);refine draw_rule [(0,[]),(1,[]),(2,[]),(3,[]),(4,[3]),(5,[3]),(6,[3]),(7,[3]),(8,[])] [[],[],[0,1],[0,1,2],[],[],[4,5],[4,5,6],[0,1,2,3,4,5,6,7]] [32,33,34,35,36,37,38,39] [] (by kernel_rfl) (by kernel_rfl) (by kernel_rfl) (by kernel_rfl) (by exact trivial) ?_)|(refine And.intro ?_ ?_;(try simp only[sxO]at *);omega)|fail)<;>(try simp (maxSteps:=1000000) only [cE_ment,hasK_nil,cE_kill,cE_len,u32_one,u32_app1,u32_set,Nat.mul_one,rcSt,u32V,ej,hu.one,hv.one,hxi,hyi,d2,d3,w10,↓hold_pre,awayP,runOps,regK,step1,newK,genR,appR,obl,buildR,Value.cells,closeK,keepH,outV,retK,ret1,retC,RetV,Option.getD,runD,stepD,afterK,undef,simprocAttr,sxB,↓sxD,sxE,sxTab]))
  exact ⟨i,rcSt M u v i,by omega,le_sub ⟨rfl,rfl,rfl,trivial⟩ trivial rfl rfl rfl (keepLt0 _),i,rfl,by omega,by rw[hdx,hdy,hd,hab],rfl⟩
 ·have d3:decide ((a:Int)=(b:Int))=false:=by simp;omega
  by_cases hlt2:a<b
  ·have d4:decide ((a:Int)<(b:Int))=true:=by simp;omega
   rw[cmpN_lt (lt1 hlt2)]at hK
   refine Go1.mk ?_;repeat' ((first|(with_reducible refine Go1.go ?_)|((with_reducible refine isDraw [some 23,some 24,some 25,some 26,some 27,some 28,some 29,some 30,some 31] (by decide) ?_);refine draw_rule [(0,[]),(1,[]),(2,[]),(3,[]),(4,[3]),(5,[3]),(6,[3]),(7,[3]),(8,[])] [[],[],[0,1],[0,1,2],[],[],[4,5],[4,5,6],[0,1,2,3,4,5,6,7]] [23,24,25,26,27,28,29,30] [] (by kernel_rfl) (by kernel_rfl) (by kernel_rfl) (by kernel_rfl) (by exact trivial) ?_)|((with_reducible refine isDraw [some 32,some 33,some 34,some 35,some 36,some 37,some 38,some 39,some 40] (by decide) ?_);refine draw_rule [(0,[]),(1,[]),(2,[]),(3,[]),(4,[3]),(5,[3]),(6,[3]),(7,[3]),(8,[])] [[],[],[0,1],[0,1,2],[],[],[4,5],[4,5,6],[0,1,2,3,4,5,6,7]] [32,33,34,35,36,37,38,39] [] (by kernel_rfl) (by kernel_rfl) (by kernel_rfl) (by kernel_rfl) (by exact trivial) ?_)|(refine And.intro ?_ ?_;(try simp only[sxO]at *);omega)|fail)<;>(try simp (maxSteps:=1000000) only [cE_ment,hasK_nil,cE_kill,cE_len,u32_one,u32_app1,u32_set,Nat.mul_one,rcSt,u32V,ej,hu.one,hv.one,hxi,hyi,d2,d3,d4,w10,↓hold_pre,awayP,runOps,regK,step1,newK,genR,appR,obl,buildR,Value.cells,closeK,keepH,outV,retK,ret1,retC,RetV,Option.getD,runD,stepD,afterK,undef,simprocAttr,sxB,↓sxD,sxE,sxTab]))
   exact hK
  ·have d4:decide ((a:Int)<(b:Int))=false:=by simp;omega
   rw[cmpN_gt (lt2 (by omega))]at hK
   refine Go1.mk ?_;repeat' ((first|(with_reducible refine Go1.go ?_)|((with_reducible refine isDraw [some 23,some 24,some 25,some 26,some 27,some 28,some 29,some 30,some 31] (by decide) ?_);refine draw_rule [(0,[]),(1,[]),(2,[]),(3,[]),(4,[3]),(5,[3]),(6,[3]),(7,[3]),(8,[])] [[],[],[0,1],[0,1,2],[],[],[4,5],[4,5,6],[0,1,2,3,4,5,6,7]] [23,24,25,26,27,28,29,30] [] (by kernel_rfl) (by kernel_rfl) (by kernel_rfl) (by kernel_rfl) (by exact trivial) ?_)|((with_reducible refine isDraw [some 32,some 33,some 34,some 35,some 36,some 37,some 38,some 39,some 40] (by decide) ?_);refine draw_rule [(0,[]),(1,[]),(2,[]),(3,[]),(4,[3]),(5,[3]),(6,[3]),(7,[3]),(8,[])] [[],[],[0,1],[0,1,2],[],[],[4,5],[4,5,6],[0,1,2,3,4,5,6,7]] [32,33,34,35,36,37,38,39] [] (by kernel_rfl) (by kernel_rfl) (by kernel_rfl) (by kernel_rfl) (by exact trivial) ?_)|(refine And.intro ?_ ?_;(try simp only[sxO]at *);omega)|fail)<;>(try simp (maxSteps:=1000000) only [cE_ment,hasK_nil,cE_kill,cE_len,u32_one,u32_app1,u32_set,Nat.mul_one,rcSt,u32V,ej,hu.one,hv.one,hxi,hyi,d2,d3,d4,w10,↓hold_pre,awayP,runOps,regK,step1,newK,genR,appR,obl,buildR,Value.cells,closeK,keepH,outV,retK,ret1,retC,RetV,Option.getD,runD,stepD,afterK,undef,simprocAttr,sxB,↓sxD,sxE,sxTab]))
   exact hK
def rtSt(M:Mem)(u:Value)(j:Nat):St:={env:=[(3,.ext (.int .i64 (j:Int))),(0,.ext u)],hp:=[],M:=M,kb:=0,fx:=[]}
theorem rtrim_ok(u:Value)(l:List Nat)(hu:IsL M u32V u l)(ho:okN l)(hb:l.length<1000000000)(hK:NatK M K (valN l)):CallS Try.prog 97 [.ext u] [] M [] K:=by
 refine CallS.frzF ?_
 refine inlS (cs:=[]) Try.mixed Try.func97 rfl (by kernel_rfl) 0 rfl rfl ?_
 simp only[Try.f97]
 refine Go1.mk ?_;repeat' ((first|(with_reducible refine Go1.go ?_)|(refine And.intro ?_ ?_;(try simp only[sxO]at *);omega)|fail)<;>(try simp (maxSteps:=1000000) only [cE_ment,hasK_nil,cE_kill,cE_len,u32_one,u32_app1,u32_set,Nat.mul_one,hu.one,hu.len,hu.sl,↓hold_pre,awayP,runOps,regK,step1,newK,genR,appR,obl,buildR,Value.cells,closeK,keepH,outV,retK,ret1,retC,RetV,Option.getD,runD,stepD,afterK,undef,simprocAttr,sxB,↓sxD,sxE,sxTab]))
 refine ⟨fun d z=>∃j,j=d∧j≤l.length∧(∀i (h:i<l.length),j≤i→l[i]=0)∧z=rtSt M u j,⟨l.length,rtSt M u l.length,le_sub ⟨rfl,rfl,trivial⟩ trivial rfl rfl rfl (keepLt0 _),⟨_,rfl,Nat.le_refl _,fun i h hi=>by omega,rfl⟩⟩,?_⟩
 rintro d z ⟨j,rfl,hj,hz,rfl⟩
 have hsub:=hu.sub (Nat.zero_le j) hj
 rw[List.drop_zero,Nat.sub_zero]at hsub
 have hslen:=hsub.len
 rw[List.length_take,Nat.min_eq_left hj]at hslen
 have hrow:=hsub.row
 have hcap:=hu.cap
 have d6:(j:Int)≤(scap u:Int):=by omega
 have d7:(0:Int)≤(j:Int):=by omega
 have hmp:List.map AV.ext (List.map u32V (l.take j))=cE u32V (l.take j):=rfl
 have key:(∀h:0<j,l[j-1]≠0)→FrzF K [] (.slo 21 0 j 1) [(21,55,cE u32V (l.take j))] M:=fun h=>by
  have e:=take_canon ho hj hz h
  rw[e]
  exact NatK.frz hK (by rw[←e,List.length_take];omega)
 by_cases hlt:0<j
 case neg=>
  obtain rfl:j=0:=by omega
  have d1:decide ((0:Int)<((0:Nat):Int))=false:=by decide
  refine Go1.mk ?_;repeat' ((first|(with_reducible refine Go1.go ?_)|(refine And.intro ?_ ?_;(try simp only[sxO]at *);omega)|fail)<;>(try simp (maxSteps:=1000000) only [cE_ment,hasK_nil,cE_kill,cE_len,u32_one,u32_app1,u32_set,Nat.mul_one,rtSt,hu.one,hu.len,hu.sl,d1,d6,d7,hsub.sl,hslen,hrow,hmp,↓hold_pre,awayP,runOps,regK,step1,newK,genR,appR,obl,buildR,Value.cells,closeK,keepH,outV,retK,ret1,retC,RetV,Option.getD,runD,stepD,afterK,undef,simprocAttr,sxB,↓sxD,sxE,sxTab]))
  exact key (fun h=>by omega)
 have d1:decide ((0:Int)<(j:Int))=true:=by simp;omega
 have w1:=pred_i hlt (by omega)
 have hi:j-1<l.length:=by omega
 have hxi:=hu.idx (P:=Try.prog) (T:=55) tk55 tz55 (by omega) hi
 by_cases h0:l[j-1]=0
 ·have d4:decide ((l[j-1]:Int)=0)=true:=by simp;omega
  refine Go1.mk ?_;repeat' ((first|(with_reducible refine Go1.go ?_)|(refine And.intro ?_ ?_;(try simp only[sxO]at *);omega)|fail)<;>(try simp (maxSteps:=1000000) only [cE_ment,hasK_nil,cE_kill,cE_len,u32_one,u32_app1,u32_set,Nat.mul_one,u32V,rtSt,hu.one,hu.len,hu.sl,d1,w1,hxi,d4,↓hold_pre,awayP,runOps,regK,step1,newK,genR,appR,obl,buildR,Value.cells,closeK,keepH,outV,retK,ret1,retC,RetV,Option.getD,runD,stepD,afterK,undef,simprocAttr,sxB,↓sxD,sxE,sxTab]))
  exact ⟨j-1,_,by omega,le_sub (z:=rtSt M u (j-1)) ⟨rfl,rfl,trivial⟩ trivial rfl rfl rfl (keepLt0 _),j-1,rfl,by omega,fun i h hi=>by
   rcases Nat.lt_or_ge i j with h1|h1
   ·obtain rfl:i=j-1:=by omega
    exact h0
   ·exact hz i h h1,rfl⟩
 ·have d4:decide ((l[j-1]:Int)=0)=false:=by simp;omega
  refine Go1.mk ?_;repeat' ((first|(with_reducible refine Go1.go ?_)|(refine And.intro ?_ ?_;(try simp only[sxO]at *);omega)|fail)<;>(try simp (maxSteps:=1000000) only [cE_ment,hasK_nil,cE_kill,cE_len,u32_one,u32_app1,u32_set,Nat.mul_one,u32V,rtSt,hu.one,hu.len,hu.sl,d1,w1,hxi,d4,d6,d7,hsub.sl,hslen,hrow,hmp,↓hold_pre,awayP,runOps,regK,step1,newK,genR,appR,obl,buildR,Value.cells,closeK,keepH,outV,retK,ret1,retC,RetV,Option.getD,runD,stepD,afterK,undef,simprocAttr,sxB,↓sxD,sxE,sxTab]))
  exact key (fun h=>h0)
theorem rtrim_bor(k n:Nat)(T:TypeId)(l:List Nat)(hn:n=l.length)(ho:okN l)(hb:l.length<1000000000)(hK:∀w M',Mem.le M M'→IsL M' u32V w (ofN (valN l))→FreshS M w→K (.ext w) [(k,T,cE u32V l)] M') :
  CallS Try.prog 97 [.slo k 0 n 1] [(k,T,cE u32V l)] M [] K:=by
 refine CallS.bor ⟨⟨_,rfl⟩,trivial⟩ fun us M' hM hb'=>?_
 obtain ⟨v1,_,rfl,h1,rfl⟩:=hb'
 have g1:=h1.isL (g:=u32V) (L:=l) (T:=T) (by simp[lkH]) hn
 refine rtrim_ok v1 l g1 ho hb fun w M2 h2 h3 h4=>?_
 exact ⟨fun j hj=>rfl,fun M3 h5 h6 _=>hK w M3 h5 (h3.move h4 h6) (h4.le hM)⟩
variable {u v:Value}{l1 l2:List Nat}
end
end Go.Proofs.Ytjapnklocibgaaa.Sx
set_option linter.unusedVariables false
namespace Go.Proofs.Ytjapnklocibgaaa.Sx
end Go.Proofs.Ytjapnklocibgaaa.Sx
namespace Go.Proofs.Ytjapnklocibgaaa.Sx
open Go Go.RowKit
set_option linter.unusedVariables false
set_option linter.unusedSimpArgs false
set_option maxRecDepth 100000
set_option maxHeartbeats 8000000
attribute [local congr] fin_congr finG_congr stepG_congr step1_congr runOps_congr brv_congr obl_congr condK_congr LoopK_congr seqK_congr CutK_congr vc_congr DrawK_congr regK_congr CallK_congr AskK_congr newK_congr retC_congr ret1_congr retK_congr outV_congr closeK_congr genR_congr appR_congr finD_congr finGD_congr stepGD_congr stepD_congr CallK0_congr runD_congr okR_congr CallS_congr vcX_congr
attribute [local congr] Stop_congr
section
variable {M:Mem}{K:AV→Hp→Mem→Prop}
end
end Go.Proofs.Ytjapnklocibgaaa.Sx
namespace Go.Proofs.Ytjapnklocibgaaa.Sx
open Go Go.RowKit
set_option linter.unusedVariables false
set_option linter.unusedSimpArgs false
set_option maxRecDepth 100000
set_option maxHeartbeats 8000000
attribute [local congr] fin_congr finG_congr stepG_congr step1_congr runOps_congr brv_congr obl_congr condK_congr LoopK_congr seqK_congr CutK_congr vc_congr DrawK_congr regK_congr CallK_congr AskK_congr newK_congr retC_congr ret1_congr retK_congr outV_congr closeK_congr genR_congr appR_congr finD_congr finGD_congr stepGD_congr stepD_congr CallK0_congr runD_congr okR_congr CallS_congr vcX_congr
attribute [local congr] Stop_congr
section
variable {M:Mem}{K:AV→Hp→Mem→Prop}
def snSt(M:Mem)(u1 u2:Value)(i:Nat):St:={env:=[(5,.ext (.int .i64 (i:Int))),(1,.ext u2),(0,.ext u1)],hp:=[],M:=M,kb:=0,fx:=[]}
theorem sameNat_ok(u1 u2:Value)(l:List Nat)(h1:IsL M u32V u1 l)(h2:IsL M u32V u2 l)(hb:l.length<1000000000)(hK:K (.ext (.bool true)) [] M):CallS Try.prog 57 [.ext u1,.ext u2] [] M [] K:=by
 refine inlS (cs:=[]) Try.mixed Try.func57 rfl (by kernel_rfl) 0 rfl rfl ?_
 simp only[Try.f57]
 have hl2:decide ((l.length:Int)=(l.length:Int))=true:=by simp
 refine Go1.mk ?_;repeat' ((first|(with_reducible refine Go1.go ?_)|((with_reducible refine isDraw [some 17,some 18,some 19,some 20,some 21,some 22,some 23,some 24,some 25] (by decide) ?_);refine draw_rule [(0,[]),(1,[]),(2,[]),(3,[]),(4,[3]),(5,[3]),(6,[3]),(7,[3]),(8,[])] [[],[],[0,1],[0,1,2],[],[],[4,5],[4,5,6],[0,1,2,3,4,5,6,7]] [17,18,19,20,21,22,23,24] [] (by kernel_rfl) (by kernel_rfl) (by kernel_rfl) (by kernel_rfl) (by exact trivial) ?_)|(refine And.intro ?_ ?_;(try simp only[sxO]at *);omega)|fail)<;>(try simp (maxSteps:=1000000) only [h1.len,h1.sl,h2.len,h2.sl,hl2,↓hold_pre,awayP,runOps,regK,step1,newK,genR,appR,obl,buildR,Value.cells,closeK,keepH,outV,retK,ret1,retC,RetV,Option.getD,runD,stepD,afterK,undef,simprocAttr,sxB,↓sxD,sxE,sxTab]))
 refine ⟨fun m z=>∃i,i≤l.length∧m=l.length-i∧z=snSt M u1 u2 i,⟨l.length,snSt M u1 u2 0,le_sub ⟨rfl,rfl,rfl,trivial⟩ trivial rfl rfl rfl (keepLt0 _),⟨0,by omega,rfl,rfl⟩⟩,?_⟩
 rintro m z ⟨i,hi,rfl,rfl⟩
 by_cases hlt:i<l.length
 ·have f1:=h1.idx (P:=Try.prog) (T:=55) tk55 tz55 (by omega) hlt
  have f2:=h2.idx (P:=Try.prog) (T:=55) tk55 tz55 (by omega) hlt
  have d1:decide ((l[i]:Int)=(l[i]:Int))=true:=by simp
  refine Go1.mk ?_;repeat' ((first|(with_reducible refine Go1.go ?_)|((with_reducible refine isDraw [some 17,some 18,some 19,some 20,some 21,some 22,some 23,some 24,some 25] (by decide) ?_);refine draw_rule [(0,[]),(1,[]),(2,[]),(3,[]),(4,[3]),(5,[3]),(6,[3]),(7,[3]),(8,[])] [[],[],[0,1],[0,1,2],[],[],[4,5],[4,5,6],[0,1,2,3,4,5,6,7]] [17,18,19,20,21,22,23,24] [] (by kernel_rfl) (by kernel_rfl) (by kernel_rfl) (by kernel_rfl) (by exact trivial) ?_)|(refine And.intro ?_ ?_;(try simp only[sxO]at *);omega)|fail)<;>(try simp (maxSteps:=1000000) only [f1,f2,d1,u32V,snSt,↓hold_pre,awayP,runOps,regK,step1,newK,genR,appR,obl,buildR,Value.cells,closeK,keepH,outV,retK,ret1,retC,RetV,Option.getD,runD,stepD,afterK,undef,simprocAttr,sxB,↓sxD,sxE,sxTab]))
  exact ⟨l.length-(i+1),snSt M u1 u2 (i+1),by omega,le_sub ⟨rfl,rfl,rfl,trivial⟩ trivial rfl rfl rfl (keepLt0 _),i+1,by omega,rfl,rfl⟩
 ·have f1:=h1.fin hlt
  obtain rfl:i=l.length:=by omega
  refine Go1.mk ?_;repeat' ((first|(with_reducible refine Go1.go ?_)|((with_reducible refine isDraw [some 17,some 18,some 19,some 20,some 21,some 22,some 23,some 24,some 25] (by decide) ?_);refine draw_rule [(0,[]),(1,[]),(2,[]),(3,[]),(4,[3]),(5,[3]),(6,[3]),(7,[3]),(8,[])] [[],[],[0,1],[0,1,2],[],[],[4,5],[4,5,6],[0,1,2,3,4,5,6,7]] [17,18,19,20,21,22,23,24] [] (by kernel_rfl) (by kernel_rfl) (by kernel_rfl) (by kernel_rfl) (by exact trivial) ?_)|(refine And.intro ?_ ?_;(try simp only[sxO]at *);omega)|fail)<;>(try simp (maxSteps:=1000000) only [f1,snSt,↓hold_pre,awayP,runOps,regK,step1,newK,genR,appR,obl,buildR,Value.cells,closeK,keepH,outV,retK,ret1,retC,RetV,Option.getD,runD,stepD,afterK,undef,simprocAttr,sxB,↓sxD,sxE,sxTab]))
  exact hK
end
end Go.Proofs.Ytjapnklocibgaaa.Sx
namespace Go.Proofs.Ytjapnklocibgaaa.Sx
open Go Go.RowKit
set_option linter.unusedVariables false
set_option linter.unusedSimpArgs false
set_option maxRecDepth 100000
set_option maxHeartbeats 8000000
attribute [local congr] fin_congr finG_congr stepG_congr step1_congr runOps_congr brv_congr obl_congr condK_congr LoopK_congr seqK_congr CutK_congr vc_congr DrawK_congr regK_congr CallK_congr AskK_congr newK_congr retC_congr ret1_congr retK_congr outV_congr closeK_congr genR_congr appR_congr finD_congr finGD_congr stepGD_congr stepD_congr CallK0_congr runD_congr okR_congr CallS_congr vcX_congr
attribute [local congr] Stop_congr
def exF(n d:Nat):Int×Nat×Nat:=if (ofN (n / Nat.gcd n d)).length≤128∧(ofN (d / Nat.gcd n d)).length≤128 then (0,n / Nat.gcd n d,d / Nat.gcd n d) else (2,0,0)
def makF(a b:List Nat):Int×Nat×Nat:=if chkN a&&chkN b then (if valN b=0 then (4,0,0) else exF (valN a) (valN b)) else (1,0,0)
def ofF(a b:Int):Int×Nat×Nat:=if a<0∨b<0 then (5,0,0) else makF (ofN a.toNat) (ofN b.toNat)
def chkF(a b:List Nat):Bool:=chkN a&&chkN b&&!decide (valN b=0)&&(Nat.gcd (valN a) (valN b)==1)
theorem exF_is{n d:Nat}(h1:(ofN n).length≤128)(h2:(ofN d).length≤128):exF n d=(0,n / Nat.gcd n d,d / Nat.gcd n d):=by
 unfold exF
 have:=len_mono (Nat.div_le_self n (Nat.gcd n d))
 have:=len_mono (Nat.div_le_self d (Nat.gcd n d))
 rw[if_pos ⟨by omega,by omega⟩]
theorem chkF_ok{a b:List Nat}(ha:okN a)(hb:okN b)(h:chkF a b=true):a=ofN (valN a)∧b=ofN (valN b)∧a.length≤128∧b.length≤128∧0<valN b∧Nat.gcd (valN a) (valN b)=1:=by
 unfold chkF at h
 simp only[Bool.and_eq_true,Bool.not_eq_true',decide_eq_false_iff_not,beq_iff_eq]at h
 obtain ⟨⟨⟨h1,h2⟩,h3⟩,h4⟩:=h
 obtain ⟨e1,b1⟩:=chkN_ok ha h1
 obtain ⟨e2,b2⟩:=chkN_ok hb h2
 exact ⟨e1,e2,b1,b2,by omega,h4⟩
theorem nil_iff{l:List Nat}(h:l=ofN (valN l)):l.length=0↔valN l=0:=by
 constructor
 ·intro h0
  rw[List.length_eq_zero_iff.1 h0];rfl
 ·intro h0
  rw[h,h0,ofN_zero];rfl
def FracK(M:Mem)(K:AV→Hp→Mem→Prop)(r:Int×Nat×Nat):Prop:=∀w1 w2 M',Mem.le M M'→IsL M' u32V w1 (ofN r.2.1)→IsL M' u32V w2 (ofN r.2.2)→FreshS M w1→FreshS M w2→K (.ext (.tuple #[.agg #[w1,w2],.int .i64 r.1])) [] M'
section
variable {M:Mem}{K:AV→Hp→Mem→Prop}{u1 u2:Value}{l1 l2:List Nat}
theorem FracK.err{M':Mem}(e:Int)(h:FracK M K (e,0,0))(hM:Mem.le M M'):K (.ext (.tuple #[.agg #[.slice none 0 0,.slice none 0 0],.int .i64 e])) [] M':=h _ _ _ hM (by rw[ofN_zero];exact isL_nil _ _ _) (by rw[ofN_zero];exact isL_nil _ _ _) (freshS_nil _ _) (freshS_nil _ _)
theorem FracK.from{M':Mem}{r:Int×Nat×Nat}(h:FracK M K r)(hM:Mem.le M M'):FracK M' K r:=fun w1 w2 M2 a1 a2 a3 a4 a5=>h w1 w2 M2 (hM.trans a1) a2 a3 (a4.le hM) (a5.le hM)
theorem exact_ok(u v:Value)(n d:Nat)(hu:IsL M u32V u (ofN n))(hv:IsL M u32V v (ofN d))(hn:(ofN n).length<1000000)(hd:(ofN d).length<1000000)(hd0:0<d)(hK:FracK M K (exF n d)):CallS Try.prog 47 [.ext u,.ext v] [] M [] K:=by
 refine inlS (cs:=[]) Try.mixed Try.func47 rfl (by kernel_rfl) 0 rfl rfl ?_
 simp only[Try.f47]
 unfold exF at hK
 have hg0:0<Nat.gcd n d:=Nat.gcd_pos_of_pos_right _ hd0
 have hgl:=len_mono (Nat.gcd_le_right n hd0)
 have hn2:=len_mono (Nat.div_le_self n (Nat.gcd n d))
 have hd2:=len_mono (Nat.div_le_self d (Nat.gcd n d))
 refine Go1.mk ?_;repeat' ((first|(with_reducible refine Go1.go ?_)|(((with_reducible refine isCall (f:=63) ?_);refine callA_nil (by kernel_rfl) ?_;refine (gcd_ok u v n d hu hv (by omega) (by omega) (fun g M1 a1 a2 a3=>Stop.mk ?_))))|(refine And.intro ?_ ?_;(try simp only[sxO]at *);omega)|fail)<;>(try simp (maxSteps:=1000000) only [hu.one,hv.one,↓hold_pre,awayP,runOps,regK,step1,newK,genR,appR,obl,buildR,Value.cells,closeK,keepH,outV,retK,ret1,retC,RetV,Option.getD,runD,stepD,afterK,undef,simprocAttr,sxB,↓sxD,sxE,sxTab]))
 have a1:Mem.le M M1:=a1
 generalize Nat.gcd n d=gg at *
 have hu1:=hu.le a1
 have hv1:=hv.le a1
 refine Stop.go ?_
 refine Go1.mk ?_;repeat' ((first|(with_reducible refine Go1.go ?_)|(((with_reducible refine isCall (f:=64) ?_);refine callA_nil (by kernel_rfl) ?_;refine (divide_ok u g n gg hu1 a2 (by omega) (by omega) hg0 (fun q1 r1 M2 b1 b2 b3 b4 b5=>Stop.mk ?_))))|(refine And.intro ?_ ?_;(try simp only[sxO]at *);omega)|fail)<;>(try simp (maxSteps:=1000000) only [hu1.one,hv1.one,a2.one,↓hold_pre,awayP,runOps,regK,step1,newK,genR,appR,obl,buildR,Value.cells,closeK,keepH,outV,retK,ret1,retC,RetV,Option.getD,runD,stepD,afterK,undef,simprocAttr,sxB,↓sxD,sxE,sxTab]))
 have b1:Mem.le M1 M2:=b1
 have hv2:=hv1.le b1
 have a2':=a2.le b1
 refine Stop.go ?_
 refine Go1.mk ?_;repeat' ((first|(with_reducible refine Go1.go ?_)|(((with_reducible refine isCall (f:=64) ?_);refine callA_nil (by kernel_rfl) ?_;refine (divide_ok v g d gg hv2 a2' (by omega) (by omega) hg0 (fun q2 r2 M3 c1 c2 c3 c4 c5=>Stop.mk ?_))))|(refine And.intro ?_ ?_;(try simp only[sxO]at *);omega)|fail)<;>(try simp (maxSteps:=1000000) only [hv2.one,a2'.one,b2.one,b3.one,↓hold_pre,awayP,runOps,regK,step1,newK,genR,appR,obl,buildR,Value.cells,closeK,keepH,outV,retK,ret1,retC,RetV,Option.getD,runD,stepD,afterK,undef,simprocAttr,sxB,↓sxD,sxE,sxTab]))
 have c1:Mem.le M2 M3:=c1
 have b2':=b2.le c1
 have b3':=b3.le c1
 have hM:=(a1.trans b1).trans c1
 refine Stop.go ?_
 by_cases h1:(ofN (n / gg)).length≤128
 ·have d1:decide ((128:Int)<((ofN (n / gg)).length:Int))=false:=by rw[decide_eq_false_iff_not];omega
  by_cases h2:(ofN (d / gg)).length≤128
  ·have d2:decide ((128:Int)<((ofN (d / gg)).length:Int))=false:=by rw[decide_eq_false_iff_not];omega
   rw[if_pos ⟨h1,h2⟩]at hK
   refine Go1.mk ?_;repeat' ((first|(with_reducible refine Go1.go ?_)|(refine And.intro ?_ ?_;(try simp only[sxO]at *);omega)|fail)<;>(try simp (maxSteps:=1000000) only [b2'.one,b2'.len,b2'.sl,b3'.one,c2.one,c2.len,c2.sl,c3.one,d1,d2,↓hold_pre,awayP,runOps,regK,step1,newK,genR,appR,obl,buildR,Value.cells,closeK,keepH,outV,retK,ret1,retC,RetV,Option.getD,runD,stepD,afterK,undef,simprocAttr,sxB,↓sxD,sxE,sxTab]))
   exact hK _ _ _ hM b2' c2 (b4.le a1) (c4.le (a1.trans b1))
  ·have d2:decide ((128:Int)<((ofN (d / gg)).length:Int))=true:=by rw[decide_eq_true_eq];omega
   rw[if_neg (fun h=>h2 h.2)]at hK
   refine Go1.mk ?_;repeat' ((first|(with_reducible refine Go1.go ?_)|(refine And.intro ?_ ?_;(try simp only[sxO]at *);omega)|fail)<;>(try simp (maxSteps:=1000000) only [b2'.one,b2'.len,b2'.sl,b3'.one,c2.one,c2.len,c2.sl,c3.one,d1,d2,↓hold_pre,awayP,runOps,regK,step1,newK,genR,appR,obl,buildR,Value.cells,closeK,keepH,outV,retK,ret1,retC,RetV,Option.getD,runD,stepD,afterK,undef,simprocAttr,sxB,↓sxD,sxE,sxTab]))
   exact hK.err _ hM
 ·have d1:decide ((128:Int)<((ofN (n / gg)).length:Int))=true:=by rw[decide_eq_true_eq];omega
  rw[if_neg (fun h=>h1 h.1)]at hK
  refine Go1.mk ?_;repeat' ((first|(with_reducible refine Go1.go ?_)|(refine And.intro ?_ ?_;(try simp only[sxO]at *);omega)|fail)<;>(try simp (maxSteps:=1000000) only [b2'.one,b2'.len,b2'.sl,b3'.one,c2.one,c2.len,c2.sl,c3.one,d1,↓hold_pre,awayP,runOps,regK,step1,newK,genR,appR,obl,buildR,Value.cells,closeK,keepH,outV,retK,ret1,retC,RetV,Option.getD,runD,stepD,afterK,undef,simprocAttr,sxB,↓sxD,sxE,sxTab]))
  exact hK.err _ hM
theorem fmake_ok(h1:IsL M u32V u1 l1)(h2:IsL M u32V u2 l2)(o1:okN l1)(o2:okN l2)(b1:l1.length<1000000)(b2:l2.length<1000000)(hK:FracK M K (makF l1 l2)):CallS Try.prog 78 [.ext u1,.ext u2] [] M [] K:=by
 refine inlS (cs:=[]) Try.mixed Try.func78 rfl (by kernel_rfl) 0 rfl rfl ?_
 simp only[Try.f78]
 unfold makF at hK
 cases hc1:chkN l1 with
 | false=>
  rw[hc1]at hK
  refine Go1.mk ?_;repeat' ((first|(with_reducible refine Go1.go ?_)|(((with_reducible refine isCall (f:=62) ?_);refine callA_nil (by kernel_rfl) ?_;refine (check_ok u1 l1 h1 (by omega) ?_)))|(refine And.intro ?_ ?_;(try simp only[sxO]at *);omega)|fail)<;>(try simp (maxSteps:=1000000) only [h1.one,h2.one,hc1,↓hold_pre,awayP,runOps,regK,step1,newK,genR,appR,obl,buildR,Value.cells,closeK,keepH,outV,retK,ret1,retC,RetV,Option.getD,runD,stepD,afterK,undef,simprocAttr,sxB,↓sxD,sxE,sxTab]))
  exact hK.err _ (Mem.le.refl _)
 | true=>
  cases hc2:chkN l2 with
  | false=>
   rw[hc1,hc2]at hK
   refine Go1.mk ?_;repeat' ((first|(with_reducible refine Go1.go ?_)|(((with_reducible refine isCall (f:=62) ?_);refine callA_nil (by kernel_rfl) ?_;refine (check_ok u1 l1 h1 (by omega) ?_)))|(((with_reducible refine isCall (f:=62) ?_);refine callA_nil (by kernel_rfl) ?_;refine (check_ok u2 l2 h2 (by omega) ?_)))|(refine And.intro ?_ ?_;(try simp only[sxO]at *);omega)|fail)<;>(try simp (maxSteps:=1000000) only [h1.one,h2.one,hc1,hc2,↓hold_pre,awayP,runOps,regK,step1,newK,genR,appR,obl,buildR,Value.cells,closeK,keepH,outV,retK,ret1,retC,RetV,Option.getD,runD,stepD,afterK,undef,simprocAttr,sxB,↓sxD,sxE,sxTab]))
   exact hK.err _ (Mem.le.refl _)
  | true=>
   rw[hc1,hc2,Bool.and_self,if_pos rfl]at hK
   obtain ⟨e1,_⟩:=chkN_ok o1 hc1
   obtain ⟨e2,_⟩:=chkN_ok o2 hc2
   have h1':=h1
   have h2':=h2
   rw[e1]at h1'
   rw[e2]at h2'
   have hz:=nil_iff e2
   by_cases h0:valN l2=0
   ·rw[if_pos h0]at hK
    have d1:decide ((l2.length:Int)=0)=true:=by rw[decide_eq_true_eq];have:=hz.2 h0;omega
    refine Go1.mk ?_;repeat' ((first|(with_reducible refine Go1.go ?_)|(((with_reducible refine isCall (f:=62) ?_);refine callA_nil (by kernel_rfl) ?_;refine (check_ok u1 l1 h1 (by omega) ?_)))|(((with_reducible refine isCall (f:=62) ?_);refine callA_nil (by kernel_rfl) ?_;refine (check_ok u2 l2 h2 (by omega) ?_)))|(refine And.intro ?_ ?_;(try simp only[sxO]at *);omega)|fail)<;>(try simp (maxSteps:=1000000) only [h1.one,h2.one,h2.len,h2.sl,hc1,hc2,d1,↓hold_pre,awayP,runOps,regK,step1,newK,genR,appR,obl,buildR,Value.cells,closeK,keepH,outV,retK,ret1,retC,RetV,Option.getD,runD,stepD,afterK,undef,simprocAttr,sxB,↓sxD,sxE,sxTab]))
    exact hK.err _ (Mem.le.refl _)
   ·rw[if_neg h0]at hK
    have d1:decide ((l2.length:Int)=0)=false:=by rw[decide_eq_false_iff_not];have:=fun h=>h0 (hz.1 h);omega
    refine Go1.mk ?_;repeat' ((first|(with_reducible refine Go1.go ?_)|(((with_reducible refine isCall (f:=62) ?_);refine callA_nil (by kernel_rfl) ?_;refine (check_ok u1 l1 h1 (by omega) ?_)))|(((with_reducible refine isCall (f:=62) ?_);refine callA_nil (by kernel_rfl) ?_;refine (check_ok u2 l2 h2 (by omega) ?_)))|(((with_reducible refine isCall (f:=47) ?_);refine callA_nil (by kernel_rfl) ?_;refine (exact_ok u1 u2 _ _ h1' h2' (by rw[←e1];omega) (by rw[←e2];omega) (by omega) (fun w1 w2 M1 a1 a2 a3 a4 a5=>Stop.mk ?_))))|(refine And.intro ?_ ?_;(try simp only[sxO]at *);omega)|fail)<;>(try simp (maxSteps:=1000000) only [h1.one,h2.one,h2.len,h2.sl,hc1,hc2,d1,↓hold_pre,awayP,runOps,regK,step1,newK,genR,appR,obl,buildR,Value.cells,closeK,keepH,outV,retK,ret1,retC,RetV,Option.getD,runD,stepD,afterK,undef,simprocAttr,sxB,↓sxD,sxE,sxTab]))
    refine Stop.go ?_
    refine Go1.mk ?_;repeat' ((first|(with_reducible refine Go1.go ?_)|(refine And.intro ?_ ?_;(try simp only[sxO]at *);omega)|fail)<;>(try simp (maxSteps:=1000000) only [a2.one,a3.one,↓hold_pre,awayP,runOps,regK,step1,newK,genR,appR,obl,buildR,Value.cells,closeK,keepH,outV,retK,ret1,retC,RetV,Option.getD,runD,stepD,afterK,undef,simprocAttr,sxB,↓sxD,sxE,sxTab]))
    exact hK _ _ _ a1 a2 a3 a4 a5
theorem fof_ok(a b:Int)(ha : -9223372036854775808≤a)(ha2:a≤9223372036854775807)(hb : -9223372036854775808≤b)(hb2:b≤9223372036854775807)(hK:FracK M K (ofF a b)):CallS Try.prog 58 [.ext (.int .i64 a),.ext (.int .i64 b)] [] M [] K:=by
 refine inlS (cs:=[]) Try.mixed Try.func58 rfl (by kernel_rfl) 0 rfl rfl ?_
 simp only[Try.f58]
 unfold ofF at hK
 by_cases h1:a<0
 ·have d1:decide (a<0)=true:=by rw[decide_eq_true_eq];exact h1
  rw[if_pos (.inl h1)]at hK
  refine Go1.mk ?_;repeat' ((first|(with_reducible refine Go1.go ?_)|(refine And.intro ?_ ?_;(try simp only[sxO]at *);omega)|fail)<;>(try simp (maxSteps:=1000000) only [d1,↓hold_pre,awayP,runOps,regK,step1,newK,genR,appR,obl,buildR,Value.cells,closeK,keepH,outV,retK,ret1,retC,RetV,Option.getD,runD,stepD,afterK,undef,simprocAttr,sxB,↓sxD,sxE,sxTab]))
  exact hK.err _ (Mem.le.refl _)
 have d1:decide (a<0)=false:=by rw[decide_eq_false_iff_not];exact h1
 by_cases h2:b<0
 ·have d2:decide (b<0)=true:=by rw[decide_eq_true_eq];exact h2
  rw[if_pos (.inr h2)]at hK
  refine Go1.mk ?_;repeat' ((first|(with_reducible refine Go1.go ?_)|(refine And.intro ?_ ?_;(try simp only[sxO]at *);omega)|fail)<;>(try simp (maxSteps:=1000000) only [d1,d2,↓hold_pre,awayP,runOps,regK,step1,newK,genR,appR,obl,buildR,Value.cells,closeK,keepH,outV,retK,ret1,retC,RetV,Option.getD,runD,stepD,afterK,undef,simprocAttr,sxB,↓sxD,sxE,sxTab]))
  exact hK.err _ (Mem.le.refl _)
 have d2:decide (b<0)=false:=by rw[decide_eq_false_iff_not];exact h2
 rw[if_neg (by omega)]at hK
 obtain ⟨x,rfl⟩:=Int.eq_ofNat_of_zero_le (show 0≤a by omega)
 obtain ⟨y,rfl⟩:=Int.eq_ofNat_of_zero_le (show 0≤b by omega)
 have wx:IntKind.u64.wrap (x:Int)=(x:Int):=wrap64_id (by omega)
 have wy:IntKind.u64.wrap (y:Int)=(y:Int):=wrap64_id (by omega)
 have hxl:(ofN x).length≤2:=ofN_len_le (by rw[show wN 2=18446744073709551616 from rfl];omega)
 have hyl:(ofN y).length≤2:=ofN_len_le (by rw[show wN 2=18446744073709551616 from rfl];omega)
 rw[Int.toNat_natCast,Int.toNat_natCast]at hK
 refine Go1.mk ?_;repeat' ((first|(with_reducible refine Go1.go ?_)|(((with_reducible refine isCall (f:=79) ?_);refine callA_nil (by kernel_rfl) ?_;refine (natOf_ok x (by omega) (fun w1 M1 a1 a2 a3=>Stop.mk ?_))))|(refine And.intro ?_ ?_;(try simp only[sxO]at *);omega)|fail)<;>(try simp (maxSteps:=1000000) only [d1,d2,wx,wy,↓hold_pre,awayP,runOps,regK,step1,newK,genR,appR,obl,buildR,Value.cells,closeK,keepH,outV,retK,ret1,retC,RetV,Option.getD,runD,stepD,afterK,undef,simprocAttr,sxB,↓sxD,sxE,sxTab]))
 have a1:Mem.le M M1:=a1
 refine Stop.go ?_
 refine Go1.mk ?_;repeat' ((first|(with_reducible refine Go1.go ?_)|(((with_reducible refine isCall (f:=79) ?_);refine callA_nil (by kernel_rfl) ?_;refine (natOf_ok y (by omega) (fun w2 M2 b1 b2 b3=>Stop.mk ?_))))|(refine And.intro ?_ ?_;(try simp only[sxO]at *);omega)|fail)<;>(try simp (maxSteps:=1000000) only [a2.one,wy,↓hold_pre,awayP,runOps,regK,step1,newK,genR,appR,obl,buildR,Value.cells,closeK,keepH,outV,retK,ret1,retC,RetV,Option.getD,runD,stepD,afterK,undef,simprocAttr,sxB,↓sxD,sxE,sxTab]))
 have b1:Mem.le M1 M2:=b1
 have a2':=a2.le b1
 refine Stop.go ?_
 refine Go1.mk ?_;repeat' ((first|(with_reducible refine Go1.go ?_)|(((with_reducible refine isCall (f:=78) ?_);refine callA_nil (by kernel_rfl) ?_;refine (fmake_ok a2' b2 (okN_ofN _) (okN_ofN _) (by omega) (by omega) (fun w3 w4 M3 c1 c2 c3 c4 c5=>Stop.mk ?_))))|(refine And.intro ?_ ?_;(try simp only[sxO]at *);omega)|fail)<;>(try simp (maxSteps:=1000000) only [a2'.one,b2.one,↓hold_pre,awayP,runOps,regK,step1,newK,genR,appR,obl,buildR,Value.cells,closeK,keepH,outV,retK,ret1,retC,RetV,Option.getD,runD,stepD,afterK,undef,simprocAttr,sxB,↓sxD,sxE,sxTab]))
 have c1:Mem.le M2 M3:=c1
 refine Stop.go ?_
 refine Go1.mk ?_;repeat' ((first|(with_reducible refine Go1.go ?_)|(refine And.intro ?_ ?_;(try simp only[sxO]at *);omega)|fail)<;>(try simp (maxSteps:=1000000) only [c2.one,c3.one,↓hold_pre,awayP,runOps,regK,step1,newK,genR,appR,obl,buildR,Value.cells,closeK,keepH,outV,retK,ret1,retC,RetV,Option.getD,runD,stepD,afterK,undef,simprocAttr,sxB,↓sxD,sxE,sxTab]))
 exact hK _ _ _ ((a1.trans b1).trans c1) c2 c3 (c4.le (a1.trans b1)) (c5.le (a1.trans b1))
theorem one_iff(g:Nat):(g=1)↔((ofN g).length=1∧(ofN g).getD 0 0=1):=by
 constructor
 ·rintro rfl
  have:ofN 1=[1]:=by rw[ofN_pos (by decide),show 1 / 4294967296=0 from rfl,ofN_zero]
  rw[this];simp
 ·rintro ⟨h1,h2⟩
  have:=valN_ofN g
  generalize ofN g=l at *
  match l,h1 with
  | [a],_=>simp[valN]at this h2;omega
theorem fcheck_ok(h1:IsL M u32V u1 l1)(h2:IsL M u32V u2 l2)(o1:okN l1)(o2:okN l2)(b1:l1.length<1000000)(b2:l2.length<1000000)(hK:∀M',Mem.le M M'→K (.ext (.bool (chkF l1 l2))) [] M'):CallS Try.prog 43 [.ext (.agg #[u1,u2])] [] M [] K:=by
 refine inlS (cs:=[]) Try.mixed Try.func43 rfl (by kernel_rfl) 0 rfl rfl ?_
 simp only[Try.f43]
 unfold chkF at hK
 cases hc1:chkN l1 with
 | false=>
  rw[hc1]at hK
  refine Go1.mk ?_;repeat' ((first|(with_reducible refine Go1.go ?_)|(((with_reducible refine isCall (f:=62) ?_);refine callA_nil (by kernel_rfl) ?_;refine (check_ok u1 l1 h1 (by omega) ?_)))|(refine And.intro ?_ ?_;(try simp only[sxO]at *);omega)|fail)<;>(try simp (maxSteps:=1000000) only [h1.one,h2.one,hc1,↓hold_pre,awayP,runOps,regK,step1,newK,genR,appR,obl,buildR,Value.cells,closeK,keepH,outV,retK,ret1,retC,RetV,Option.getD,runD,stepD,afterK,undef,simprocAttr,sxB,↓sxD,sxE,sxTab]))
  exact hK _ (Mem.le.refl _)
 | true=>
  cases hc2:chkN l2 with
  | false=>
   rw[hc1,hc2]at hK
   refine Go1.mk ?_;repeat' ((first|(with_reducible refine Go1.go ?_)|(((with_reducible refine isCall (f:=62) ?_);refine callA_nil (by kernel_rfl) ?_;refine (check_ok u1 l1 h1 (by omega) ?_)))|(((with_reducible refine isCall (f:=62) ?_);refine callA_nil (by kernel_rfl) ?_;refine (check_ok u2 l2 h2 (by omega) ?_)))|(refine And.intro ?_ ?_;(try simp only[sxO]at *);omega)|fail)<;>(try simp (maxSteps:=1000000) only [h1.one,h2.one,hc1,hc2,↓hold_pre,awayP,runOps,regK,step1,newK,genR,appR,obl,buildR,Value.cells,closeK,keepH,outV,retK,ret1,retC,RetV,Option.getD,runD,stepD,afterK,undef,simprocAttr,sxB,↓sxD,sxE,sxTab]))
   exact hK _ (Mem.le.refl _)
  | true=>
   obtain ⟨e1,_⟩:=chkN_ok o1 hc1
   obtain ⟨e2,_⟩:=chkN_ok o2 hc2
   have h1':=h1
   have h2':=h2
   rw[e1]at h1'
   rw[e2]at h2'
   have hz:=nil_iff e2
   by_cases h0:valN l2=0
   ·rw[hc1,hc2,decide_eq_true h0]at hK
    have d1:decide ((l2.length:Int)=0)=true:=by rw[decide_eq_true_eq];have:=hz.2 h0;omega
    refine Go1.mk ?_;repeat' ((first|(with_reducible refine Go1.go ?_)|(((with_reducible refine isCall (f:=62) ?_);refine callA_nil (by kernel_rfl) ?_;refine (check_ok u1 l1 h1 (by omega) ?_)))|(((with_reducible refine isCall (f:=62) ?_);refine callA_nil (by kernel_rfl) ?_;refine (check_ok u2 l2 h2 (by omega) ?_)))|(refine And.intro ?_ ?_;(try simp only[sxO]at *);omega)|fail)<;>(try simp (maxSteps:=1000000) only [h1.one,h2.one,h2.len,h2.sl,hc1,hc2,d1,↓hold_pre,awayP,runOps,regK,step1,newK,genR,appR,obl,buildR,Value.cells,closeK,keepH,outV,retK,ret1,retC,RetV,Option.getD,runD,stepD,afterK,undef,simprocAttr,sxB,↓sxD,sxE,sxTab]))
    exact hK _ (Mem.le.refl _)
   have d1:decide ((l2.length:Int)=0)=false:=by rw[decide_eq_false_iff_not];have:=fun h=>h0 (hz.1 h);omega
   rw[hc1,hc2,decide_eq_false h0]at hK
   refine Go1.mk ?_;repeat' ((first|(with_reducible refine Go1.go ?_)|(((with_reducible refine isCall (f:=62) ?_);refine callA_nil (by kernel_rfl) ?_;refine (check_ok u1 l1 h1 (by omega) ?_)))|(((with_reducible refine isCall (f:=62) ?_);refine callA_nil (by kernel_rfl) ?_;refine (check_ok u2 l2 h2 (by omega) ?_)))|(((with_reducible refine isCall (f:=63) ?_);refine callA_nil (by kernel_rfl) ?_;refine (gcd_ok u1 u2 _ _ h1' h2' (by rw[←e1];omega) (by rw[←e2];omega) (fun g M1 a1 a2 a3=>Stop.mk ?_))))|(refine And.intro ?_ ?_;(try simp only[sxO]at *);omega)|fail)<;>(try simp (maxSteps:=1000000) only [h1.one,h2.one,h2.len,h2.sl,hc1,hc2,d1,↓hold_pre,awayP,runOps,regK,step1,newK,genR,appR,obl,buildR,Value.cells,closeK,keepH,outV,retK,ret1,retC,RetV,Option.getD,runD,stepD,afterK,undef,simprocAttr,sxB,↓sxD,sxE,sxTab]))
   have a1:Mem.le M M1:=a1
   have hgl:=len_mono (Nat.gcd_le_right (valN l1) (show 0<valN l2 by omega))
   rw[←e2]at hgl
   have hiff:=one_iff (Nat.gcd (valN l1) (valN l2))
   refine Stop.go ?_
   obtain ⟨gg,hgg⟩:∃gg,gg=Nat.gcd (valN l1) (valN l2):=⟨_,rfl⟩
   rw[←hgg]at hK hgl hiff a2
   clear hgg
   by_cases hl:(ofN gg).length=1
   ·have d2:decide (((ofN gg).length:Int)=1)=true:=by rw[decide_eq_true_eq];omega
    have hyi:=a2.idx (P:=Try.prog) (T:=55) tk55 tz55 (by omega) (show 0<(ofN gg).length by omega)
    have hat:(ofN gg).getD 0 0=(ofN gg)[0]:=by simp[List.getD_eq_getElem?_getD,hl]
    rw[hat]at hiff
    have d3:decide ((((ofN gg)[0]:Nat):Int)=1)=(gg==1):=by
     rw[Bool.eq_iff_iff,decide_eq_true_eq,beq_iff_eq,hiff]
     constructor
     ·intro h;exact ⟨hl,by omega⟩
     ·intro h;omega
    generalize (ofN gg)[0]=g0 at *
    refine Go1.mk ?_;repeat' ((first|(with_reducible refine Go1.go ?_)|(refine And.intro ?_ ?_;(try simp only[sxO]at *);omega)|fail)<;>(try simp (maxSteps:=1000000) only [u32V,a2.one,a2.len,a2.sl,d2,d3,hyi,Int.natCast_zero,Int.cast_ofNat_Int,↓hold_pre,awayP,runOps,regK,step1,newK,genR,appR,obl,buildR,Value.cells,closeK,keepH,outV,retK,ret1,retC,RetV,Option.getD,runD,stepD,afterK,undef,simprocAttr,sxB,↓sxD,sxE,sxTab]))
    exact hK _ a1
   ·have d2:decide (((ofN gg).length:Int)=1)=false:=by rw[decide_eq_false_iff_not];omega
    rw[show (gg==1)=false from beq_eq_false_iff_ne.2 (fun h=>hl (hiff.1 h).1)]at hK
    refine Go1.mk ?_;repeat' ((first|(with_reducible refine Go1.go ?_)|(refine And.intro ?_ ?_;(try simp only[sxO]at *);omega)|fail)<;>(try simp (maxSteps:=1000000) only [a2.one,a2.len,a2.sl,d2,↓hold_pre,awayP,runOps,regK,step1,newK,genR,appR,obl,buildR,Value.cells,closeK,keepH,outV,retK,ret1,retC,RetV,Option.getD,runD,stepD,afterK,undef,simprocAttr,sxB,↓sxD,sxE,sxTab]))
    exact hK _ a1
def CrossK(M:Mem)(K:AV→Hp→Mem→Prop)(x y:Nat):Prop:=∀w1 w2 M',Mem.le M M'→IsL M' u32V w1 (ofN x)→IsL M' u32V w2 (ofN y)→FreshS M w1→FreshS M w2→K (.ext (.tuple #[w1,w2])) [] M'
theorem cross_ok{v1 v2:Value}{n1 d1 n2 d2:Nat}(h1:IsL M u32V u1 (ofN n1))(h2:IsL M u32V u2 (ofN d1))(k1:IsL M u32V v1 (ofN n2))(k2:IsL M u32V v2 (ofN d2))(b1:(ofN n1).length<1000000)(b2:(ofN d1).length<1000000)(b3:(ofN n2).length<1000000)(b4:(ofN d2).length<1000000)(hK:CrossK M K (n1*d2) (n2*d1)):CallS Try.prog 45 [.ext (.agg #[u1,u2]),.ext (.agg #[v1,v2])] [] M [] K:=by
 refine inlS (cs:=[]) Try.mixed Try.func45 rfl (by kernel_rfl) 0 rfl rfl ?_
 simp only[Try.f45]
 refine Go1.mk ?_;repeat' ((first|(with_reducible refine Go1.go ?_)|(((with_reducible refine isCall0 (f:=48) ?_);refine callA0_nil (by kernel_rfl) ?_;refine (mul_ok u1 v2 n1 d2 h1 k2 (by omega) (by omega) (fun w1 M1 a1 a2 a3=>Stop.mk ?_))))|((with_reducible refine isDraw [some 6,some 7,some 8,some 9,some 10,some 11,some 12,some 13,some 14,some 15,some 4,some 5] (by decide) ?_);refine draw_rule [(0,[]),(1,[]),(2,[1]),(3,[1]),(5,[1,3]),(6,[1,3]),(7,[1,3,6]),(8,[1,3,6]),(4,[6,8]),(9,[]),(10,[]),(11,[])] [[],[0],[],[2],[0,1,2,3],[],[5],[],[7],[0,1,2,3,4,5,6,7,8],[0,1,2,3,4,5,6,7,8,9],[0,1,2,3,4,5,6,7,8,9,10]] [6,7,8,9,10,11,12,13,14] [] (by kernel_rfl) (by kernel_rfl) (by kernel_rfl) (by kernel_rfl) (by exact trivial) ?_)|(refine And.intro ?_ ?_;(try simp only[sxO]at *);omega)|fail)<;>(try simp (maxSteps:=1000000) only [h1.one,h2.one,k1.one,k2.one,↓hold_pre,awayP,runOps,regK,step1,newK,genR,appR,obl,buildR,Value.cells,closeK,keepH,outV,retK,ret1,retC,RetV,Option.getD,runD,stepD,afterK,undef,simprocAttr,sxB,↓sxD,sxE,sxTab]))
 have a1:Mem.le M M1:=a1
 have h1':=h1.le a1
 have h2':=h2.le a1
 have k1':=k1.le a1
 have k2':=k2.le a1
 refine Stop.go ?_
 refine Go1.mk ?_;repeat' ((first|(with_reducible refine Go1.go ?_)|(((with_reducible refine isCall0 (f:=48) ?_);refine callA0_nil (by kernel_rfl) ?_;refine (mul_ok v1 u2 n2 d1 k1' h2' (by omega) (by omega) (fun w2 M2 c1 c2 c3=>Stop.mk ?_))))|((with_reducible refine isDraw [some 6,some 7,some 8,some 9,some 10,some 11,some 12,some 13,some 14,some 15,some 4,some 5] (by decide) ?_);refine draw_rule [(0,[]),(1,[]),(2,[1]),(3,[1]),(5,[1,3]),(6,[1,3]),(7,[1,3,6]),(8,[1,3,6]),(4,[6,8]),(9,[]),(10,[]),(11,[])] [[],[0],[],[2],[0,1,2,3],[],[5],[],[7],[0,1,2,3,4,5,6,7,8],[0,1,2,3,4,5,6,7,8,9],[0,1,2,3,4,5,6,7,8,9,10]] [6,7,8,9,10,11,12,13,14] [] (by kernel_rfl) (by kernel_rfl) (by kernel_rfl) (by kernel_rfl) (by exact trivial) ?_)|(refine And.intro ?_ ?_;(try simp only[sxO]at *);omega)|fail)<;>(try simp (maxSteps:=1000000) only [h1'.one,h2'.one,k1'.one,k2'.one,a2.one,↓hold_pre,awayP,runOps,regK,step1,newK,genR,appR,obl,buildR,Value.cells,closeK,keepH,outV,retK,ret1,retC,RetV,Option.getD,runD,stepD,afterK,undef,simprocAttr,sxB,↓sxD,sxE,sxTab]))
 have c1:Mem.le M1 M2:=c1
 refine Stop.go ?_
 refine Go1.mk ?_;repeat' ((first|(with_reducible refine Go1.go ?_)|(refine And.intro ?_ ?_;(try simp only[sxO]at *);omega)|fail)<;>(try simp (maxSteps:=1000000) only [a2.one,c2.one,↓hold_pre,awayP,runOps,regK,step1,newK,genR,appR,obl,buildR,Value.cells,closeK,keepH,outV,retK,ret1,retC,RetV,Option.getD,runD,stepD,afterK,undef,simprocAttr,sxB,↓sxD,sxE,sxTab]))
 exact hK _ _ _ (a1.trans c1) (a2.le c1) c2 a3 (c3.le a1)
end
end Go.Proofs.Ytjapnklocibgaaa.Sx
namespace Go.Proofs.Ytjapnklocibgaaa.Sx
open Go Go.RowKit
set_option linter.unusedVariables false
set_option linter.unusedSimpArgs false
set_option maxRecDepth 100000
set_option maxHeartbeats 8000000
attribute [local congr] fin_congr finG_congr stepG_congr step1_congr runOps_congr brv_congr obl_congr condK_congr LoopK_congr seqK_congr CutK_congr vc_congr DrawK_congr regK_congr CallK_congr AskK_congr newK_congr retC_congr ret1_congr retK_congr outV_congr closeK_congr genR_congr appR_congr finD_congr finGD_congr stepGD_congr stepD_congr CallK0_congr runD_congr okR_congr CallS_congr vcX_congr
attribute [local congr] Stop_congr
structure IsF (M:Mem) (u1 u2:Value) (l1 l2:List Nat):Prop where
 n:IsL M u32V u1 l1
 d:IsL M u32V u2 l2
 on:okN l1
 od:okN l2
 bn:l1.length<1000000
 bd:l2.length<1000000
theorem IsF.le{M M':Mem}{u1 u2:Value}{l1 l2:List Nat}(h:IsF M u1 u2 l1 l2)(hM:Mem.le M M'):IsF M' u1 u2 l1 l2:=⟨h.n.le hM,h.d.le hM,h.on,h.od,h.bn,h.bd⟩
theorem IsF.num{M:Mem}{u1 u2:Value}{l1 l2:List Nat}(h:IsF M u1 u2 l1 l2)(hc:chkF l1 l2=true):∃n d,IsL M u32V u1 (ofN n)∧IsL M u32V u2 (ofN d)∧valN l1=n∧valN l2=d∧(ofN n).length≤128∧(ofN d).length≤128∧0<d:=by
 obtain ⟨e1,e2,b1,b2,h0,_⟩:=chkF_ok h.on h.od hc
 refine ⟨valN l1,valN l2,?_,?_,rfl,rfl,?_,?_,h0⟩
 ·rw[←e1];exact h.n
 ·rw[←e2];exact h.d
 ·rw[←e1];exact b1
 ·rw[←e2];exact b2
theorem mul_len(x y:Nat):(ofN (x*y)).length≤(ofN x).length+(ofN y).length:=ofN_len_le (by
 rw[wN_add]
 exact Nat.mul_lt_mul_of_lt_of_lt (ofN_len_lt (Nat.le_refl _)) (ofN_len_lt (Nat.le_refl _)))
theorem add_len{x y k:Nat}(h1:(ofN x).length≤k)(h2:(ofN y).length≤k):(ofN (x+y)).length≤k+1:=ofN_len_le (by
 have:=ofN_len_lt h1
 have:=ofN_len_lt h2
 rw[wN_succ];omega)
def addF(a b c d:List Nat):Int×Nat×Nat:=if chkF a b&&chkF c d then exF (valN a*valN d+valN c*valN b) (valN b*valN d) else (1,0,0)
def mulF(a b c d:List Nat):Int×Nat×Nat:=if chkF a b&&chkF c d then exF (valN a*valN c) (valN b*valN d) else (1,0,0)
def divF(a b c d:List Nat):Int×Nat×Nat:=if chkF a b&&chkF c d then (if valN c=0 then (4,0,0) else exF (valN a*valN d) (valN c*valN b)) else (1,0,0)
def cmpF(a b c d:List Nat):Int:=if chkF a b&&chkF c d then cmpN (valN a*valN d) (valN c*valN b) else 0
section
variable {M:Mem}{K:AV→Hp→Mem→Prop}{u1 u2 v1 v2:Value}{l1 l2 k1 k2:List Nat}
theorem fcmp_ok(ha:IsF M u1 u2 l1 l2)(hb:IsF M v1 v2 k1 k2)(hK:∀M',Mem.le M M'→K (.ext (.int .i64 (cmpF l1 l2 k1 k2))) [] M'):CallS Try.prog 14 [.ext (.agg #[u1,u2]),.ext (.agg #[v1,v2])] [] M [] K:=by
 refine inlS (cs:=[]) Try.mixed Try.func14 rfl (by kernel_rfl) 0 rfl rfl ?_
 simp only[Try.f14]
 unfold cmpF at hK
 refine Go1.mk ?_;repeat' ((first|(with_reducible refine Go1.go ?_)|(((with_reducible refine isCall (f:=43) ?_);refine callA_nil (by kernel_rfl) ?_;refine (fcheck_ok ha.n ha.d ha.on ha.od ha.bn ha.bd (fun M1 m1=>Stop.mk ?_))))|(refine And.intro ?_ ?_;(try simp only[sxO]at *);omega)|fail)<;>(try simp (maxSteps:=1000000) only [ha.n.one,ha.d.one,hb.n.one,hb.d.one,↓hold_pre,awayP,runOps,regK,step1,newK,genR,appR,obl,buildR,Value.cells,closeK,keepH,outV,retK,ret1,retC,RetV,Option.getD,runD,stepD,afterK,undef,simprocAttr,sxB,↓sxD,sxE,sxTab]))
 have m1:Mem.le M M1:=m1
 have ha1:=ha.le m1
 have hb1:=hb.le m1
 refine Stop.go ?_
 cases hc1:chkF l1 l2 with
 | false=>
  rw[hc1]at hK
  refine Go1.mk ?_;repeat' ((first|(with_reducible refine Go1.go ?_)|(refine And.intro ?_ ?_;(try simp only[sxO]at *);omega)|fail)<;>(try simp (maxSteps:=1000000) only [ha1.n.one,ha1.d.one,hb1.n.one,hb1.d.one,↓hold_pre,awayP,runOps,regK,step1,newK,genR,appR,obl,buildR,Value.cells,closeK,keepH,outV,retK,ret1,retC,RetV,Option.getD,runD,stepD,afterK,undef,simprocAttr,sxB,↓sxD,sxE,sxTab]))
  exact hK _ m1
 | true=>
 refine Go1.mk ?_;repeat' ((first|(with_reducible refine Go1.go ?_)|(((with_reducible refine isCall (f:=43) ?_);refine callA_nil (by kernel_rfl) ?_;refine (fcheck_ok hb1.n hb1.d hb1.on hb1.od hb1.bn hb1.bd (fun M2 m2=>Stop.mk ?_))))|(refine And.intro ?_ ?_;(try simp only[sxO]at *);omega)|fail)<;>(try simp (maxSteps:=1000000) only [ha1.n.one,ha1.d.one,hb1.n.one,hb1.d.one,↓hold_pre,awayP,runOps,regK,step1,newK,genR,appR,obl,buildR,Value.cells,closeK,keepH,outV,retK,ret1,retC,RetV,Option.getD,runD,stepD,afterK,undef,simprocAttr,sxB,↓sxD,sxE,sxTab]))
 have m2:Mem.le M1 M2:=m2
 have ha2:=ha1.le m2
 have hb2:=hb1.le m2
 have hm:=m1.trans m2
 refine Stop.go ?_
 cases hc2:chkF k1 k2 with
 | false=>
  rw[hc1,hc2]at hK
  refine Go1.mk ?_;repeat' ((first|(with_reducible refine Go1.go ?_)|(refine And.intro ?_ ?_;(try simp only[sxO]at *);omega)|fail)<;>(try simp (maxSteps:=1000000) only [ha2.n.one,ha2.d.one,hb2.n.one,hb2.d.one,↓hold_pre,awayP,runOps,regK,step1,newK,genR,appR,obl,buildR,Value.cells,closeK,keepH,outV,retK,ret1,retC,RetV,Option.getD,runD,stepD,afterK,undef,simprocAttr,sxB,↓sxD,sxE,sxTab]))
  exact hK _ hm
 | true=>
 rw[hc1,hc2,Bool.and_self,if_pos rfl]at hK
 obtain ⟨n1,d1,hn1,hd1,e1,e2,q1,q2,q3⟩:=ha2.num hc1
 obtain ⟨n2,d2,hn2,hd2,e3,e4,r1,r2,r3⟩:=hb2.num hc2
 rw[e1,e2,e3,e4]at hK
 have t1:=mul_len n1 d2
 have t2:=mul_len n2 d1
 have t3:=mul_len d1 d2
 have t4:=mul_len n1 n2
 have t0:0<d1*d2:=Nat.mul_pos q3 r3
 refine Go1.mk ?_;repeat' ((first|(with_reducible refine Go1.go ?_)|(((with_reducible refine isCall (f:=45) ?_);refine callA_nil (by kernel_rfl) ?_;refine (cross_ok hn1 hd1 hn2 hd2 (by omega) (by omega) (by omega) (by omega) (fun wx wy M3 m3 hx hy fx fy=>Stop.mk ?_))))|(refine And.intro ?_ ?_;(try simp only[sxO]at *);omega)|fail)<;>(try simp (maxSteps:=1000000) only [hn1.one,hd1.one,hn2.one,hd2.one,↓hold_pre,awayP,runOps,regK,step1,newK,genR,appR,obl,buildR,Value.cells,closeK,keepH,outV,retK,ret1,retC,RetV,Option.getD,runD,stepD,afterK,undef,simprocAttr,sxB,↓sxD,sxE,sxTab]))
 have m3:Mem.le M2 M3:=m3
 have hn1:=hn1.le m3
 have hd1:=hd1.le m3
 have hn2:=hn2.le m3
 have hd2:=hd2.le m3
 have fx:=fx.le hm
 have fy:=fy.le hm
 have hm:=hm.trans m3
 refine Stop.go ?_
 refine Go1.mk ?_;repeat' ((first|(with_reducible refine Go1.go ?_)|(((with_reducible refine isCall (f:=44) ?_);refine callA_nil (by kernel_rfl) ?_;refine (compare_ok wx wy _ _ hx hy (by omega) (by omega) ?_)))|(refine And.intro ?_ ?_;(try simp only[sxO]at *);omega)|fail)<;>(try simp (maxSteps:=1000000) only [hn1.one,hd1.one,hn2.one,hd2.one,hx.one,hy.one,↓hold_pre,awayP,runOps,regK,step1,newK,genR,appR,obl,buildR,Value.cells,closeK,keepH,outV,retK,ret1,retC,RetV,Option.getD,runD,stepD,afterK,undef,simprocAttr,sxB,↓sxD,sxE,sxTab]))
 exact hK _ hm
theorem fadd_ok(ha:IsF M u1 u2 l1 l2)(hb:IsF M v1 v2 k1 k2)(hK:FracK M K (addF l1 l2 k1 k2)):CallS Try.prog 42 [.ext (.agg #[u1,u2]),.ext (.agg #[v1,v2])] [] M [] K:=by
 refine inlS (cs:=[]) Try.mixed Try.func42 rfl (by kernel_rfl) 0 rfl rfl ?_
 simp only[Try.f42]
 unfold addF at hK
 refine Go1.mk ?_;repeat' ((first|(with_reducible refine Go1.go ?_)|(((with_reducible refine isCall (f:=43) ?_);refine callA_nil (by kernel_rfl) ?_;refine (fcheck_ok ha.n ha.d ha.on ha.od ha.bn ha.bd (fun M1 m1=>Stop.mk ?_))))|(refine And.intro ?_ ?_;(try simp only[sxO]at *);omega)|fail)<;>(try simp (maxSteps:=1000000) only [ha.n.one,ha.d.one,hb.n.one,hb.d.one,↓hold_pre,awayP,runOps,regK,step1,newK,genR,appR,obl,buildR,Value.cells,closeK,keepH,outV,retK,ret1,retC,RetV,Option.getD,runD,stepD,afterK,undef,simprocAttr,sxB,↓sxD,sxE,sxTab]))
 have m1:Mem.le M M1:=m1
 have ha1:=ha.le m1
 have hb1:=hb.le m1
 refine Stop.go ?_
 cases hc1:chkF l1 l2 with
 | false=>
  rw[hc1]at hK
  refine Go1.mk ?_;repeat' ((first|(with_reducible refine Go1.go ?_)|(refine And.intro ?_ ?_;(try simp only[sxO]at *);omega)|fail)<;>(try simp (maxSteps:=1000000) only [ha1.n.one,ha1.d.one,hb1.n.one,hb1.d.one,↓hold_pre,awayP,runOps,regK,step1,newK,genR,appR,obl,buildR,Value.cells,closeK,keepH,outV,retK,ret1,retC,RetV,Option.getD,runD,stepD,afterK,undef,simprocAttr,sxB,↓sxD,sxE,sxTab]))
  exact hK.err _ m1
 | true=>
 refine Go1.mk ?_;repeat' ((first|(with_reducible refine Go1.go ?_)|(((with_reducible refine isCall (f:=43) ?_);refine callA_nil (by kernel_rfl) ?_;refine (fcheck_ok hb1.n hb1.d hb1.on hb1.od hb1.bn hb1.bd (fun M2 m2=>Stop.mk ?_))))|(refine And.intro ?_ ?_;(try simp only[sxO]at *);omega)|fail)<;>(try simp (maxSteps:=1000000) only [ha1.n.one,ha1.d.one,hb1.n.one,hb1.d.one,↓hold_pre,awayP,runOps,regK,step1,newK,genR,appR,obl,buildR,Value.cells,closeK,keepH,outV,retK,ret1,retC,RetV,Option.getD,runD,stepD,afterK,undef,simprocAttr,sxB,↓sxD,sxE,sxTab]))
 have m2:Mem.le M1 M2:=m2
 have ha2:=ha1.le m2
 have hb2:=hb1.le m2
 have hm:=m1.trans m2
 refine Stop.go ?_
 cases hc2:chkF k1 k2 with
 | false=>
  rw[hc1,hc2]at hK
  refine Go1.mk ?_;repeat' ((first|(with_reducible refine Go1.go ?_)|(refine And.intro ?_ ?_;(try simp only[sxO]at *);omega)|fail)<;>(try simp (maxSteps:=1000000) only [ha2.n.one,ha2.d.one,hb2.n.one,hb2.d.one,↓hold_pre,awayP,runOps,regK,step1,newK,genR,appR,obl,buildR,Value.cells,closeK,keepH,outV,retK,ret1,retC,RetV,Option.getD,runD,stepD,afterK,undef,simprocAttr,sxB,↓sxD,sxE,sxTab]))
  exact hK.err _ hm
 | true=>
 rw[hc1,hc2,Bool.and_self,if_pos rfl]at hK
 obtain ⟨n1,d1,hn1,hd1,e1,e2,q1,q2,q3⟩:=ha2.num hc1
 obtain ⟨n2,d2,hn2,hd2,e3,e4,r1,r2,r3⟩:=hb2.num hc2
 rw[e1,e2,e3,e4]at hK
 have t1:=mul_len n1 d2
 have t2:=mul_len n2 d1
 have t3:=mul_len d1 d2
 have t4:=mul_len n1 n2
 have t0:0<d1*d2:=Nat.mul_pos q3 r3
 refine Go1.mk ?_;repeat' ((first|(with_reducible refine Go1.go ?_)|(((with_reducible refine isCall0 (f:=45) ?_);refine callA0_nil (by kernel_rfl) ?_;refine (cross_ok hn1 hd1 hn2 hd2 (by omega) (by omega) (by omega) (by omega) (fun wx wy M3 m3 hx hy fx fy=>Stop.mk ?_))))|((with_reducible refine isDraw [some 15,some 16,some 17,some 18,some 19,some 20,some 21,some 22,some 23,some 24,some 25,some 26,some 27,some 28,none,some 5] (by decide) ?_);refine draw_rule [(0,[]),(1,[0]),(6,[0,1]),(7,[0,1]),(8,[0,1,7]),(9,[0,1,7]),(2,[7,9]),(3,[7,9]),(4,[7,9]),(5,[7,9]),(10,[]),(11,[]),(12,[]),(13,[]),(14,[]),(15,[])] [[],[],[0,1],[0,1,2],[0,1,2],[0,1,2,3,4],[],[6],[],[8],[0,1,2,3,4,5,6,7,8,9],[0,1,2,3,4,5,6,7,8,9,10],[0,1,2,3,4,5,6,7,8,9,10,11],[0,1,2,3,4,5,6,7,8,9,10,11],[0,1,2,3,4,5,6,7,8,9,10,11,12,13],[0,1,2,3,4,5,6,7,8,9,10,11,12,13,14]] [15,16,17,18,19,20,21,22,23,24,27,28] [] (by kernel_rfl) (by kernel_rfl) (by kernel_rfl) (by kernel_rfl) (by exact trivial) ?_)|(refine And.intro ?_ ?_;(try simp only[sxO]at *);omega)|fail)<;>(try simp (maxSteps:=1000000) only [hn1.one,hd1.one,hn2.one,hd2.one,↓hold_pre,awayP,runOps,regK,step1,newK,genR,appR,obl,buildR,Value.cells,closeK,keepH,outV,retK,ret1,retC,RetV,Option.getD,runD,stepD,afterK,undef,simprocAttr,sxB,↓sxD,sxE,sxTab]))
 have m3:Mem.le M2 M3:=m3
 have hn1:=hn1.le m3
 have hd1:=hd1.le m3
 have hn2:=hn2.le m3
 have hd2:=hd2.le m3
 have fx:=fx.le hm
 have fy:=fy.le hm
 have hm:=hm.trans m3
 refine Stop.go ?_
 refine Go1.mk ?_;repeat' ((first|(with_reducible refine Go1.go ?_)|(((with_reducible refine isCall0 (f:=61) ?_);refine callA0_nil (by kernel_rfl) ?_;refine (add_ok wx wy _ _ hx hy (by omega) (by omega) (fun ws M4 m4 hs fs=>Stop.mk ?_))))|((with_reducible refine isDraw [some 15,some 16,some 17,some 18,some 19,some 20,some 21,some 22,some 23,some 24,some 25,some 26,some 27,some 28,none,some 5] (by decide) ?_);refine draw_rule [(0,[]),(1,[0]),(6,[0,1]),(7,[0,1]),(8,[0,1,7]),(9,[0,1,7]),(2,[7,9]),(3,[7,9]),(4,[7,9]),(5,[7,9]),(10,[]),(11,[]),(12,[]),(13,[]),(14,[]),(15,[])] [[],[],[0,1],[0,1,2],[0,1,2],[0,1,2,3,4],[],[6],[],[8],[0,1,2,3,4,5,6,7,8,9],[0,1,2,3,4,5,6,7,8,9,10],[0,1,2,3,4,5,6,7,8,9,10,11],[0,1,2,3,4,5,6,7,8,9,10,11],[0,1,2,3,4,5,6,7,8,9,10,11,12,13],[0,1,2,3,4,5,6,7,8,9,10,11,12,13,14]] [15,16,17,18,19,20,21,22,23,24,27,28] [] (by kernel_rfl) (by kernel_rfl) (by kernel_rfl) (by kernel_rfl) (by exact trivial) ?_)|(refine And.intro ?_ ?_;(try simp only[sxO]at *);omega)|fail)<;>(try simp (maxSteps:=1000000) only [hn1.one,hd1.one,hn2.one,hd2.one,hx.one,hy.one,↓hold_pre,awayP,runOps,regK,step1,newK,genR,appR,obl,buildR,Value.cells,closeK,keepH,outV,retK,ret1,retC,RetV,Option.getD,runD,stepD,afterK,undef,simprocAttr,sxB,↓sxD,sxE,sxTab]))
 have m4:Mem.le M3 M4:=m4
 have hn1:=hn1.le m4
 have hd1:=hd1.le m4
 have hn2:=hn2.le m4
 have hd2:=hd2.le m4
 have hx:=hx.le m4
 have hy:=hy.le m4
 have fs:=fs.le hm
 have hm:=hm.trans m4
 refine Stop.go ?_
 refine Go1.mk ?_;repeat' ((first|(with_reducible refine Go1.go ?_)|(((with_reducible refine isCall0 (f:=48) ?_);refine callA0_nil (by kernel_rfl) ?_;refine (mul_ok u2 v2 d1 d2 hd1 hd2 (by omega) (by omega) (fun wp M5 m5 hp fp=>Stop.mk ?_))))|((with_reducible refine isDraw [some 15,some 16,some 17,some 18,some 19,some 20,some 21,some 22,some 23,some 24,some 25,some 26,some 27,some 28,none,some 5] (by decide) ?_);refine draw_rule [(0,[]),(1,[0]),(6,[0,1]),(7,[0,1]),(8,[0,1,7]),(9,[0,1,7]),(2,[7,9]),(3,[7,9]),(4,[7,9]),(5,[7,9]),(10,[]),(11,[]),(12,[]),(13,[]),(14,[]),(15,[])] [[],[],[0,1],[0,1,2],[0,1,2],[0,1,2,3,4],[],[6],[],[8],[0,1,2,3,4,5,6,7,8,9],[0,1,2,3,4,5,6,7,8,9,10],[0,1,2,3,4,5,6,7,8,9,10,11],[0,1,2,3,4,5,6,7,8,9,10,11],[0,1,2,3,4,5,6,7,8,9,10,11,12,13],[0,1,2,3,4,5,6,7,8,9,10,11,12,13,14]] [15,16,17,18,19,20,21,22,23,24,27,28] [] (by kernel_rfl) (by kernel_rfl) (by kernel_rfl) (by kernel_rfl) (by exact trivial) ?_)|(refine And.intro ?_ ?_;(try simp only[sxO]at *);omega)|fail)<;>(try simp (maxSteps:=1000000) only [hn1.one,hd1.one,hn2.one,hd2.one,hx.one,hy.one,hs.one,↓hold_pre,awayP,runOps,regK,step1,newK,genR,appR,obl,buildR,Value.cells,closeK,keepH,outV,retK,ret1,retC,RetV,Option.getD,runD,stepD,afterK,undef,simprocAttr,sxB,↓sxD,sxE,sxTab]))
 have m5:Mem.le M4 M5:=m5
 have hn1:=hn1.le m5
 have hd1:=hd1.le m5
 have hn2:=hn2.le m5
 have hd2:=hd2.le m5
 have hx:=hx.le m5
 have hy:=hy.le m5
 have hs:=hs.le m5
 have fp:=fp.le hm
 have hm:=hm.trans m5
 refine Stop.go ?_
 have t5:=add_len (x:=n1*d2) (y:=n2*d1) (k:=256) (by omega) (by omega)
 refine Go1.mk ?_;repeat' ((first|(with_reducible refine Go1.go ?_)|(((with_reducible refine isCall0 (f:=47) ?_);refine callA0_nil (by kernel_rfl) ?_;refine (exact_ok ws wp _ _ hs hp (by omega) (by omega) t0 (fun w1 w2 M6 m6 h1 h2 f1 f2=>Stop.mk ?_))))|((with_reducible refine isDraw [some 15,some 16,some 17,some 18,some 19,some 20,some 21,some 22,some 23,some 24,some 25,some 26,some 27,some 28,none,some 5] (by decide) ?_);refine draw_rule [(0,[]),(1,[0]),(6,[0,1]),(7,[0,1]),(8,[0,1,7]),(9,[0,1,7]),(2,[7,9]),(3,[7,9]),(4,[7,9]),(5,[7,9]),(10,[]),(11,[]),(12,[]),(13,[]),(14,[]),(15,[])] [[],[],[0,1],[0,1,2],[0,1,2],[0,1,2,3,4],[],[6],[],[8],[0,1,2,3,4,5,6,7,8,9],[0,1,2,3,4,5,6,7,8,9,10],[0,1,2,3,4,5,6,7,8,9,10,11],[0,1,2,3,4,5,6,7,8,9,10,11],[0,1,2,3,4,5,6,7,8,9,10,11,12,13],[0,1,2,3,4,5,6,7,8,9,10,11,12,13,14]] [15,16,17,18,19,20,21,22,23,24,27,28] [] (by kernel_rfl) (by kernel_rfl) (by kernel_rfl) (by kernel_rfl) (by exact trivial) ?_)|(refine And.intro ?_ ?_;(try simp only[sxO]at *);omega)|fail)<;>(try simp (maxSteps:=1000000) only [hn1.one,hd1.one,hn2.one,hd2.one,hx.one,hy.one,hs.one,hp.one,↓hold_pre,awayP,runOps,regK,step1,newK,genR,appR,obl,buildR,Value.cells,closeK,keepH,outV,retK,ret1,retC,RetV,Option.getD,runD,stepD,afterK,undef,simprocAttr,sxB,↓sxD,sxE,sxTab]))
 have m6:Mem.le M5 M6:=m6
 have hn1:=hn1.le m6
 have hd1:=hd1.le m6
 have hn2:=hn2.le m6
 have hd2:=hd2.le m6
 have hx:=hx.le m6
 have hy:=hy.le m6
 have hs:=hs.le m6
 have hp:=hp.le m6
 have f1:=f1.le hm
 have f2:=f2.le hm
 have hm:=hm.trans m6
 refine Stop.go ?_
 refine Go1.mk ?_;repeat' ((first|(with_reducible refine Go1.go ?_)|(refine And.intro ?_ ?_;(try simp only[sxO]at *);omega)|fail)<;>(try simp (maxSteps:=1000000) only [hn1.one,hd1.one,hn2.one,hd2.one,hx.one,hy.one,hs.one,hp.one,h1.one,h2.one,↓hold_pre,awayP,runOps,regK,step1,newK,genR,appR,obl,buildR,Value.cells,closeK,keepH,outV,retK,ret1,retC,RetV,Option.getD,runD,stepD,afterK,undef,simprocAttr,sxB,↓sxD,sxE,sxTab]))
 exact hK _ _ _ hm h1 h2 f1 f2
theorem fmul_ok(ha:IsF M u1 u2 l1 l2)(hb:IsF M v1 v2 k1 k2)(hK:FracK M K (mulF l1 l2 k1 k2)):CallS Try.prog 21 [.ext (.agg #[u1,u2]),.ext (.agg #[v1,v2])] [] M [] K:=by
 refine inlS (cs:=[]) Try.mixed Try.func21 rfl (by kernel_rfl) 0 rfl rfl ?_
 simp only[Try.f21]
 unfold mulF at hK
 refine Go1.mk ?_;repeat' ((first|(with_reducible refine Go1.go ?_)|(((with_reducible refine isCall (f:=43) ?_);refine callA_nil (by kernel_rfl) ?_;refine (fcheck_ok ha.n ha.d ha.on ha.od ha.bn ha.bd (fun M1 m1=>Stop.mk ?_))))|(refine And.intro ?_ ?_;(try simp only[sxO]at *);omega)|fail)<;>(try simp (maxSteps:=1000000) only [ha.n.one,ha.d.one,hb.n.one,hb.d.one,↓hold_pre,awayP,runOps,regK,step1,newK,genR,appR,obl,buildR,Value.cells,closeK,keepH,outV,retK,ret1,retC,RetV,Option.getD,runD,stepD,afterK,undef,simprocAttr,sxB,↓sxD,sxE,sxTab]))
 have m1:Mem.le M M1:=m1
 have ha1:=ha.le m1
 have hb1:=hb.le m1
 refine Stop.go ?_
 cases hc1:chkF l1 l2 with
 | false=>
  rw[hc1]at hK
  refine Go1.mk ?_;repeat' ((first|(with_reducible refine Go1.go ?_)|(refine And.intro ?_ ?_;(try simp only[sxO]at *);omega)|fail)<;>(try simp (maxSteps:=1000000) only [ha1.n.one,ha1.d.one,hb1.n.one,hb1.d.one,↓hold_pre,awayP,runOps,regK,step1,newK,genR,appR,obl,buildR,Value.cells,closeK,keepH,outV,retK,ret1,retC,RetV,Option.getD,runD,stepD,afterK,undef,simprocAttr,sxB,↓sxD,sxE,sxTab]))
  exact hK.err _ m1
 | true=>
 refine Go1.mk ?_;repeat' ((first|(with_reducible refine Go1.go ?_)|(((with_reducible refine isCall (f:=43) ?_);refine callA_nil (by kernel_rfl) ?_;refine (fcheck_ok hb1.n hb1.d hb1.on hb1.od hb1.bn hb1.bd (fun M2 m2=>Stop.mk ?_))))|(refine And.intro ?_ ?_;(try simp only[sxO]at *);omega)|fail)<;>(try simp (maxSteps:=1000000) only [ha1.n.one,ha1.d.one,hb1.n.one,hb1.d.one,↓hold_pre,awayP,runOps,regK,step1,newK,genR,appR,obl,buildR,Value.cells,closeK,keepH,outV,retK,ret1,retC,RetV,Option.getD,runD,stepD,afterK,undef,simprocAttr,sxB,↓sxD,sxE,sxTab]))
 have m2:Mem.le M1 M2:=m2
 have ha2:=ha1.le m2
 have hb2:=hb1.le m2
 have hm:=m1.trans m2
 refine Stop.go ?_
 cases hc2:chkF k1 k2 with
 | false=>
  rw[hc1,hc2]at hK
  refine Go1.mk ?_;repeat' ((first|(with_reducible refine Go1.go ?_)|(refine And.intro ?_ ?_;(try simp only[sxO]at *);omega)|fail)<;>(try simp (maxSteps:=1000000) only [ha2.n.one,ha2.d.one,hb2.n.one,hb2.d.one,↓hold_pre,awayP,runOps,regK,step1,newK,genR,appR,obl,buildR,Value.cells,closeK,keepH,outV,retK,ret1,retC,RetV,Option.getD,runD,stepD,afterK,undef,simprocAttr,sxB,↓sxD,sxE,sxTab]))
  exact hK.err _ hm
 | true=>
 rw[hc1,hc2,Bool.and_self,if_pos rfl]at hK
 obtain ⟨n1,d1,hn1,hd1,e1,e2,q1,q2,q3⟩:=ha2.num hc1
 obtain ⟨n2,d2,hn2,hd2,e3,e4,r1,r2,r3⟩:=hb2.num hc2
 rw[e1,e2,e3,e4]at hK
 have t1:=mul_len n1 d2
 have t2:=mul_len n2 d1
 have t3:=mul_len d1 d2
 have t4:=mul_len n1 n2
 have t0:0<d1*d2:=Nat.mul_pos q3 r3
 refine Go1.mk ?_;repeat' ((first|(with_reducible refine Go1.go ?_)|(((with_reducible refine isCall0 (f:=48) ?_);refine callA0_nil (by kernel_rfl) ?_;refine (mul_ok u1 v1 n1 n2 hn1 hn2 (by omega) (by omega) (fun ws M3 m3 hs fs=>Stop.mk ?_))))|((with_reducible refine isDraw [some 15,some 16,some 17,some 18,some 19,some 20,some 21,some 22,some 23,some 24,some 25,some 26,some 27,none,some 5] (by decide) ?_);refine draw_rule [(0,[]),(1,[]),(2,[1]),(3,[1]),(5,[1,3]),(6,[1,3]),(7,[1,3,6]),(8,[1,3,6]),(4,[6,8]),(9,[]),(10,[]),(11,[]),(12,[]),(13,[]),(14,[])] [[],[0],[],[2],[0,1,2,3],[],[5],[],[7],[0,1,2,3,4,5,6,7,8],[0,1,2,3,4,5,6,7,8,9],[0,1,2,3,4,5,6,7,8,9,10],[0,1,2,3,4,5,6,7,8,9,10],[0,1,2,3,4,5,6,7,8,9,10,11,12],[0,1,2,3,4,5,6,7,8,9,10,11,12,13]] [15,16,17,18,19,20,21,22,23,26,27] [] (by kernel_rfl) (by kernel_rfl) (by kernel_rfl) (by kernel_rfl) (by exact trivial) ?_)|(refine And.intro ?_ ?_;(try simp only[sxO]at *);omega)|fail)<;>(try simp (maxSteps:=1000000) only [hn1.one,hd1.one,hn2.one,hd2.one,↓hold_pre,awayP,runOps,regK,step1,newK,genR,appR,obl,buildR,Value.cells,closeK,keepH,outV,retK,ret1,retC,RetV,Option.getD,runD,stepD,afterK,undef,simprocAttr,sxB,↓sxD,sxE,sxTab]))
 have m3:Mem.le M2 M3:=m3
 have hn1:=hn1.le m3
 have hd1:=hd1.le m3
 have hn2:=hn2.le m3
 have hd2:=hd2.le m3
 have fs:=fs.le hm
 have hm:=hm.trans m3
 refine Stop.go ?_
 refine Go1.mk ?_;repeat' ((first|(with_reducible refine Go1.go ?_)|(((with_reducible refine isCall0 (f:=48) ?_);refine callA0_nil (by kernel_rfl) ?_;refine (mul_ok u2 v2 d1 d2 hd1 hd2 (by omega) (by omega) (fun wp M4 m4 hp fp=>Stop.mk ?_))))|((with_reducible refine isDraw [some 15,some 16,some 17,some 18,some 19,some 20,some 21,some 22,some 23,some 24,some 25,some 26,some 27,none,some 5] (by decide) ?_);refine draw_rule [(0,[]),(1,[]),(2,[1]),(3,[1]),(5,[1,3]),(6,[1,3]),(7,[1,3,6]),(8,[1,3,6]),(4,[6,8]),(9,[]),(10,[]),(11,[]),(12,[]),(13,[]),(14,[])] [[],[0],[],[2],[0,1,2,3],[],[5],[],[7],[0,1,2,3,4,5,6,7,8],[0,1,2,3,4,5,6,7,8,9],[0,1,2,3,4,5,6,7,8,9,10],[0,1,2,3,4,5,6,7,8,9,10],[0,1,2,3,4,5,6,7,8,9,10,11,12],[0,1,2,3,4,5,6,7,8,9,10,11,12,13]] [15,16,17,18,19,20,21,22,23,26,27] [] (by kernel_rfl) (by kernel_rfl) (by kernel_rfl) (by kernel_rfl) (by exact trivial) ?_)|(refine And.intro ?_ ?_;(try simp only[sxO]at *);omega)|fail)<;>(try simp (maxSteps:=1000000) only [hn1.one,hd1.one,hn2.one,hd2.one,hs.one,↓hold_pre,awayP,runOps,regK,step1,newK,genR,appR,obl,buildR,Value.cells,closeK,keepH,outV,retK,ret1,retC,RetV,Option.getD,runD,stepD,afterK,undef,simprocAttr,sxB,↓sxD,sxE,sxTab]))
 have m4:Mem.le M3 M4:=m4
 have hn1:=hn1.le m4
 have hd1:=hd1.le m4
 have hn2:=hn2.le m4
 have hd2:=hd2.le m4
 have hs:=hs.le m4
 have fp:=fp.le hm
 have hm:=hm.trans m4
 refine Stop.go ?_
 refine Go1.mk ?_;repeat' ((first|(with_reducible refine Go1.go ?_)|(((with_reducible refine isCall0 (f:=47) ?_);refine callA0_nil (by kernel_rfl) ?_;refine (exact_ok ws wp _ _ hs hp (by omega) (by omega) t0 (fun w1 w2 M5 m5 h1 h2 f1 f2=>Stop.mk ?_))))|((with_reducible refine isDraw [some 15,some 16,some 17,some 18,some 19,some 20,some 21,some 22,some 23,some 24,some 25,some 26,some 27,none,some 5] (by decide) ?_);refine draw_rule [(0,[]),(1,[]),(2,[1]),(3,[1]),(5,[1,3]),(6,[1,3]),(7,[1,3,6]),(8,[1,3,6]),(4,[6,8]),(9,[]),(10,[]),(11,[]),(12,[]),(13,[]),(14,[])] [[],[0],[],[2],[0,1,2,3],[],[5],[],[7],[0,1,2,3,4,5,6,7,8],[0,1,2,3,4,5,6,7,8,9],[0,1,2,3,4,5,6,7,8,9,10],[0,1,2,3,4,5,6,7,8,9,10],[0,1,2,3,4,5,6,7,8,9,10,11,12],[0,1,2,3,4,5,6,7,8,9,10,11,12,13]] [15,16,17,18,19,20,21,22,23,26,27] [] (by kernel_rfl) (by kernel_rfl) (by kernel_rfl) (by kernel_rfl) (by exact trivial) ?_)|(refine And.intro ?_ ?_;(try simp only[sxO]at *);omega)|fail)<;>(try simp (maxSteps:=1000000) only [hn1.one,hd1.one,hn2.one,hd2.one,hs.one,hp.one,↓hold_pre,awayP,runOps,regK,step1,newK,genR,appR,obl,buildR,Value.cells,closeK,keepH,outV,retK,ret1,retC,RetV,Option.getD,runD,stepD,afterK,undef,simprocAttr,sxB,↓sxD,sxE,sxTab]))
 have m5:Mem.le M4 M5:=m5
 have hn1:=hn1.le m5
 have hd1:=hd1.le m5
 have hn2:=hn2.le m5
 have hd2:=hd2.le m5
 have hs:=hs.le m5
 have hp:=hp.le m5
 have f1:=f1.le hm
 have f2:=f2.le hm
 have hm:=hm.trans m5
 refine Stop.go ?_
 refine Go1.mk ?_;repeat' ((first|(with_reducible refine Go1.go ?_)|(refine And.intro ?_ ?_;(try simp only[sxO]at *);omega)|fail)<;>(try simp (maxSteps:=1000000) only [hn1.one,hd1.one,hn2.one,hd2.one,hs.one,hp.one,h1.one,h2.one,↓hold_pre,awayP,runOps,regK,step1,newK,genR,appR,obl,buildR,Value.cells,closeK,keepH,outV,retK,ret1,retC,RetV,Option.getD,runD,stepD,afterK,undef,simprocAttr,sxB,↓sxD,sxE,sxTab]))
 exact hK _ _ _ hm h1 h2 f1 f2
theorem fdiv_ok(ha:IsF M u1 u2 l1 l2)(hb:IsF M v1 v2 k1 k2)(hK:FracK M K (divF l1 l2 k1 k2)):CallS Try.prog 35 [.ext (.agg #[u1,u2]),.ext (.agg #[v1,v2])] [] M [] K:=by
 refine inlS (cs:=[]) Try.mixed Try.func35 rfl (by kernel_rfl) 0 rfl rfl ?_
 simp only[Try.f35]
 unfold divF at hK
 refine Go1.mk ?_;repeat' ((first|(with_reducible refine Go1.go ?_)|(((with_reducible refine isCall (f:=43) ?_);refine callA_nil (by kernel_rfl) ?_;refine (fcheck_ok ha.n ha.d ha.on ha.od ha.bn ha.bd (fun M1 m1=>Stop.mk ?_))))|(refine And.intro ?_ ?_;(try simp only[sxO]at *);omega)|fail)<;>(try simp (maxSteps:=1000000) only [ha.n.one,ha.d.one,hb.n.one,hb.d.one,↓hold_pre,awayP,runOps,regK,step1,newK,genR,appR,obl,buildR,Value.cells,closeK,keepH,outV,retK,ret1,retC,RetV,Option.getD,runD,stepD,afterK,undef,simprocAttr,sxB,↓sxD,sxE,sxTab]))
 have m1:Mem.le M M1:=m1
 have ha1:=ha.le m1
 have hb1:=hb.le m1
 refine Stop.go ?_
 cases hc1:chkF l1 l2 with
 | false=>
  rw[hc1]at hK
  refine Go1.mk ?_;repeat' ((first|(with_reducible refine Go1.go ?_)|(refine And.intro ?_ ?_;(try simp only[sxO]at *);omega)|fail)<;>(try simp (maxSteps:=1000000) only [ha1.n.one,ha1.d.one,hb1.n.one,hb1.d.one,↓hold_pre,awayP,runOps,regK,step1,newK,genR,appR,obl,buildR,Value.cells,closeK,keepH,outV,retK,ret1,retC,RetV,Option.getD,runD,stepD,afterK,undef,simprocAttr,sxB,↓sxD,sxE,sxTab]))
  exact hK.err _ m1
 | true=>
 refine Go1.mk ?_;repeat' ((first|(with_reducible refine Go1.go ?_)|(((with_reducible refine isCall (f:=43) ?_);refine callA_nil (by kernel_rfl) ?_;refine (fcheck_ok hb1.n hb1.d hb1.on hb1.od hb1.bn hb1.bd (fun M2 m2=>Stop.mk ?_))))|(refine And.intro ?_ ?_;(try simp only[sxO]at *);omega)|fail)<;>(try simp (maxSteps:=1000000) only [ha1.n.one,ha1.d.one,hb1.n.one,hb1.d.one,↓hold_pre,awayP,runOps,regK,step1,newK,genR,appR,obl,buildR,Value.cells,closeK,keepH,outV,retK,ret1,retC,RetV,Option.getD,runD,stepD,afterK,undef,simprocAttr,sxB,↓sxD,sxE,sxTab]))
 have m2:Mem.le M1 M2:=m2
 have ha2:=ha1.le m2
 have hb2:=hb1.le m2
 have hm:=m1.trans m2
 refine Stop.go ?_
 cases hc2:chkF k1 k2 with
 | false=>
  rw[hc1,hc2]at hK
  refine Go1.mk ?_;repeat' ((first|(with_reducible refine Go1.go ?_)|(refine And.intro ?_ ?_;(try simp only[sxO]at *);omega)|fail)<;>(try simp (maxSteps:=1000000) only [ha2.n.one,ha2.d.one,hb2.n.one,hb2.d.one,↓hold_pre,awayP,runOps,regK,step1,newK,genR,appR,obl,buildR,Value.cells,closeK,keepH,outV,retK,ret1,retC,RetV,Option.getD,runD,stepD,afterK,undef,simprocAttr,sxB,↓sxD,sxE,sxTab]))
  exact hK.err _ hm
 | true=>
 rw[hc1,hc2,Bool.and_self,if_pos rfl]at hK
 obtain ⟨n1,d1,hn1,hd1,e1,e2,q1,q2,q3⟩:=ha2.num hc1
 obtain ⟨n2,d2,hn2,hd2,e3,e4,r1,r2,r3⟩:=hb2.num hc2
 rw[e1,e2,e3,e4]at hK
 have t1:=mul_len n1 d2
 have t2:=mul_len n2 d1
 have t3:=mul_len d1 d2
 have t4:=mul_len n1 n2
 have t0:0<d1*d2:=Nat.mul_pos q3 r3
 by_cases hz:n2=0
 ·have z1:decide (((ofN n2).length:Int)=0)=true:=by rw[hz,ofN_zero];rfl
  rw[if_pos hz]at hK
  refine Go1.mk ?_;repeat' ((first|(with_reducible refine Go1.go ?_)|(refine And.intro ?_ ?_;(try simp only[sxO]at *);omega)|fail)<;>(try simp (maxSteps:=1000000) only [hn1.one,hd1.one,hn2.one,hn2.len,hn2.sl,hd2.one,z1,↓hold_pre,awayP,runOps,regK,step1,newK,genR,appR,obl,buildR,Value.cells,closeK,keepH,outV,retK,ret1,retC,RetV,Option.getD,runD,stepD,afterK,undef,simprocAttr,sxB,↓sxD,sxE,sxTab]))
  exact hK.err _ hm
 rw[if_neg hz]at hK
 have z1:decide (((ofN n2).length:Int)=0)=false:=by
  rw[decide_eq_false_iff_not]
  intro h
  exact hz (ofN_nil.1 (List.length_eq_zero_iff.1 (by omega)))
 have z0:0<n2*d1:=Nat.mul_pos (by omega) q3
 refine Go1.mk ?_;repeat' ((first|(with_reducible refine Go1.go ?_)|(((with_reducible refine isCall (f:=45) ?_);refine callA_nil (by kernel_rfl) ?_;refine (cross_ok hn1 hd1 hn2 hd2 (by omega) (by omega) (by omega) (by omega) (fun wx wy M3 m3 hx hy fx fy=>Stop.mk ?_))))|(refine And.intro ?_ ?_;(try simp only[sxO]at *);omega)|fail)<;>(try simp (maxSteps:=1000000) only [hn1.one,hd1.one,hn2.one,hd2.one,hn2.len,hn2.sl,z1,↓hold_pre,awayP,runOps,regK,step1,newK,genR,appR,obl,buildR,Value.cells,closeK,keepH,outV,retK,ret1,retC,RetV,Option.getD,runD,stepD,afterK,undef,simprocAttr,sxB,↓sxD,sxE,sxTab]))
 have m3:Mem.le M2 M3:=m3
 have hn1:=hn1.le m3
 have hd1:=hd1.le m3
 have hn2:=hn2.le m3
 have hd2:=hd2.le m3
 have fx:=fx.le hm
 have fy:=fy.le hm
 have hm:=hm.trans m3
 refine Stop.go ?_
 refine Go1.mk ?_;repeat' ((first|(with_reducible refine Go1.go ?_)|(((with_reducible refine isCall (f:=47) ?_);refine callA_nil (by kernel_rfl) ?_;refine (exact_ok wx wy _ _ hx hy (by omega) (by omega) z0 (fun w1 w2 M4 m4 h1 h2 f1 f2=>Stop.mk ?_))))|(refine And.intro ?_ ?_;(try simp only[sxO]at *);omega)|fail)<;>(try simp (maxSteps:=1000000) only [hn1.one,hd1.one,hn2.one,hd2.one,hx.one,hy.one,↓hold_pre,awayP,runOps,regK,step1,newK,genR,appR,obl,buildR,Value.cells,closeK,keepH,outV,retK,ret1,retC,RetV,Option.getD,runD,stepD,afterK,undef,simprocAttr,sxB,↓sxD,sxE,sxTab]))
 have m4:Mem.le M3 M4:=m4
 have hn1:=hn1.le m4
 have hd1:=hd1.le m4
 have hn2:=hn2.le m4
 have hd2:=hd2.le m4
 have hx:=hx.le m4
 have hy:=hy.le m4
 have f1:=f1.le hm
 have f2:=f2.le hm
 have hm:=hm.trans m4
 refine Stop.go ?_
 refine Go1.mk ?_;repeat' ((first|(with_reducible refine Go1.go ?_)|(refine And.intro ?_ ?_;(try simp only[sxO]at *);omega)|fail)<;>(try simp (maxSteps:=1000000) only [hn1.one,hd1.one,hn2.one,hd2.one,hx.one,hy.one,h1.one,h2.one,↓hold_pre,awayP,runOps,regK,step1,newK,genR,appR,obl,buildR,Value.cells,closeK,keepH,outV,retK,ret1,retC,RetV,Option.getD,runD,stepD,afterK,undef,simprocAttr,sxB,↓sxD,sxE,sxTab]))
 exact hK _ _ _ hm h1 h2 f1 f2
end
end Go.Proofs.Ytjapnklocibgaaa.Sx
namespace Go.Proofs.Ytjapnklocibgaaa.Sx
open Go Go.RowKit
set_option linter.unusedVariables false
set_option linter.unusedSimpArgs false
set_option maxRecDepth 100000
set_option maxHeartbeats 8000000
attribute [local congr] fin_congr finG_congr stepG_congr step1_congr runOps_congr brv_congr obl_congr condK_congr LoopK_congr seqK_congr CutK_congr vc_congr DrawK_congr regK_congr CallK_congr AskK_congr newK_congr retC_congr ret1_congr retK_congr outV_congr closeK_congr genR_congr appR_congr finD_congr finGD_congr stepGD_congr stepD_congr CallK0_congr runD_congr okR_congr CallS_congr vcX_congr
attribute [local congr] Stop_congr
theorem u32_wf{x:Int}(h:(Lit.int .u32 x).wf=true):0≤x∧x<4294967296:=by
 have e1:IntKind.u32.min=0:=rfl
 have e2:IntKind.u32.max=4294967295:=rfl
 simp only[Lit.wf,e1,e2,Bool.and_eq_true,decide_eq_true_eq]at h
 omega
theorem nats_of{M:Mem}{v:Value}{l:List Int}(h:IsL M (intVk .u32) v l)(hw:∀x∈l,(Lit.int .u32 x).wf=true):IsL M u32V v (l.map Int.toNat)∧okN (l.map Int.toNat):=by
 refine ⟨?_,fun x hx=>?_⟩
 ·unfold IsL at h ⊢
  rw[List.length_map,List.map_map]
  have e:l.map (u32V ∘ Int.toNat)=l.map (intVk .u32):=List.map_congr_left fun x hx=>by
   have:=(u32_wf (hw x hx)).1
   simp only[Function.comp,u32V,intVk]
   rw[Int.toNat_of_nonneg this]
  rw[e];exact h
 ·obtain ⟨y,hy,rfl⟩:=List.mem_map.1 hx
  have:=u32_wf (hw y hy)
  omega
end Go.Proofs.Ytjapnklocibgaaa.Sx
namespace Go.Proofs.Ytjapnklocibgaaa.Sx
open Go Go.RowKit
set_option linter.unusedVariables false
set_option linter.unusedSimpArgs false
set_option maxRecDepth 100000
set_option maxHeartbeats 8000000
attribute [local congr] fin_congr finG_congr stepG_congr step1_congr runOps_congr brv_congr obl_congr condK_congr LoopK_congr seqK_congr CutK_congr vc_congr DrawK_congr regK_congr CallK_congr AskK_congr newK_congr retC_congr ret1_congr retK_congr outV_congr closeK_congr genR_congr appR_congr finD_congr finGD_congr stepGD_congr stepD_congr CallK0_congr runD_congr okR_congr CallS_congr vcX_congr
attribute [local congr] Stop_congr
section
variable {M:Mem}{K:AV→Hp→Mem→Prop}
def tmSt(M:Mem)(u v:Value)(n i:Nat)(out:List Nat):St:={env:=[(6,.ext (.int .i64 (i:Int))),(5,.slo 14 0 n 1),(0,.ext u),(1,.ext v)],hp:=[(14,55,cE u32V out)],M:=M,kb:=0,fx:=[]}
def tiSt(M:Mem)(u v:Value)(n i k c:Nat)(out:List Nat):St:={env:=[(8,.ext (.int .i64 (k:Int))),(7,.ext (.int .u64 (c:Int))),(6,.ext (.int .i64 (i:Int))),(5,.slo 14 0 n 1),(0,.ext u),(1,.ext v)],hp:=[(14,55,cE u32V out)],M:=M,kb:=0,fx:=[]}
def tmI(M:Mem)(u v:Value)(x y la lb:Nat)(d:Nat)(z:St):Prop:=∃i out,d=la-i∧i≤la∧out.length=la+lb∧okN out∧valN out=valN ((ofN x).take i)*y∧(∀j (h:j<out.length),i+lb≤j→out[j]=0)∧z=tmSt M u v (la+lb) i out
def tiI(M:Mem)(u v:Value)(b:List Nat)(n i x lb:Nat)(out:List Nat)(d:Nat)(z:St):Prop:=∃k c o,d=lb+1-k∧k≤lb+1∧(lb<k→c=0)∧o.length=n∧okN o∧c<4294967296∧valN o+wN (i+k)*c=valN out+wN i*(x*valN (b.take k))∧(∀j (h:j<o.length) (h2:j<out.length),i+k≤j→o[j]=out[j])∧z=tiSt M u v n i k c o
theorem times_ok(u v:Value)(x y:Nat)(hu:IsL M u32V u (ofN x))(hv:IsL M u32V v (ofN y))(hx:(ofN x).length<100000000)(hy:(ofN y).length<100000000)(hK:NatK M K (x*y)):CallS Try.prog 76 [.ext u,.ext v] [] M [] K:=by
 refine inlS (cs:=[]) Try.mixed Try.func76 rfl (by kernel_rfl) 0 rfl rfl ?_
 simp only[Try.f76]
 generalize hl:(ofN x).length=la at *
 generalize hm:(ofN y).length=lb at *
 have w1:IntKind.i64.wrap ((la:Int)+(lb:Int))=((la+lb:Nat):Int):=by rw[wrap_id (by omega) (by omega)];omega
 refine Go1.mk ?_;repeat' ((first|(with_reducible refine Go1.go ?_)|((with_reducible refine isDraw [some 44,some 45,some 46,some 47,some 48,some 49,some 50,some 51,some 52,some 53,some 54,some 55,some 56,some 7] (by decide) ?_);refine draw_rule [(0,[]),(1,[]),(2,[]),(3,[]),(4,[]),(5,[]),(6,[4,5]),(7,[4,5]),(8,[4,5]),(9,[4,5]),(10,[4,5]),(11,[]),(12,[]),(13,[])] [[],[],[],[1,2],[1,2,3],[1,2,3,4],[],[],[6,7],[6,7,8],[6,7,8,9],[1,2,3,4,5,6,7,8,9,10],[0,1,2,3,4,5,6,7,8,9,10,11],[0,1,2,3,4,5,6,7,8,9,10,11,12]] [44,45,46,47,48,49,50,51,52,53,54,55] [] (by kernel_rfl) (by kernel_rfl) (by kernel_rfl) (by kernel_rfl) (by exact trivial) ?_)|(refine And.intro ?_ ?_;(try simp only[sxO]at *);omega)|fail)<;>(try simp (maxSteps:=1000000) only [cE_ment,hasK_nil,cE_kill,cE_len,u32_one,u32_app1,u32_set,Nat.mul_one,hu.one,hv.one,hu.len,hu.sl,hl,hv.len,hv.sl,hm,w1,↓hold_pre,awayP,runOps,regK,step1,newK,genR,appR,obl,buildR,Value.cells,closeK,keepH,outV,retK,ret1,retC,RetV,Option.getD,runD,stepD,afterK,undef,Int.reduceAdd,Int.reduceEq,Int.reduceGE,Int.reduceGT,Int.reduceLE,Int.reduceLT,Int.reduceMul,Int.reduceNe,Int.reduceNeg,Int.reduceSub,Int.reduceToNat,Nat.reduceAdd,Nat.reduceBEq,Nat.reduceBeqDiff,Nat.reduceEqDiff,Nat.reduceLT,Nat.reduceLeDiff,Nat.reduceMul,Nat.reduceSub,reduceCtorEq,↓reduceIte,sxB,↓sxD,sxE,sxTab]))
 have hz0:List.map AV.ext (repN [Value.int .u32 0] (la+lb))=cE u32V (List.replicate (la+lb) 0):=cE_rep u32V (la+lb) 0
 refine ⟨tmI M u v x y la lb,⟨la,tmSt M u v (la+lb) 0 (List.replicate (la+lb) 0),le_sub ⟨rfl,rfl,rfl,rfl,trivial⟩ (by simp[subHp,tmSt,lkH,hz0]) rfl rfl rfl (keepLt0 _),⟨0,_,rfl,by omega,by simp,okN_rep _,by rw[valN_rep];simp[valN],fun j h _=>by simp,rfl⟩⟩,?_⟩
 rintro d z ⟨i,out,rfl,hi,hlo,ho,hval,hzz,rfl⟩
 by_cases hlt:i<la
 case neg=>
  obtain rfl:i=la:=by omega
  have d1:decide ((i:Int)<(i:Int))=false:=by simp
  rw[take_all (by omega),valN_ofN]at hval
  refine Go1.mk ?_;repeat' ((first|(with_reducible refine Go1.go ?_)|((with_reducible refine isCall (f:=97) ?_);refine callA ?_)|((with_reducible refine isCallS (f:=97) ?_);refine (rtrim_bor 14 (i+lb) _ out hlo.symm ho (by omega) (fun w M' g1 g2 g3=>Stop.mk ?_)))|((with_reducible refine isDraw [some 44,some 45,some 46,some 47,some 48,some 49,some 50,some 51,some 52,some 53,some 54,some 55,some 56,some 7] (by decide) ?_);refine draw_rule [(0,[]),(1,[]),(2,[]),(3,[]),(4,[]),(5,[]),(6,[4,5]),(7,[4,5]),(8,[4,5]),(9,[4,5]),(10,[4,5]),(11,[]),(12,[]),(13,[])] [[],[],[],[1,2],[1,2,3],[1,2,3,4],[],[],[6,7],[6,7,8],[6,7,8,9],[1,2,3,4,5,6,7,8,9,10],[0,1,2,3,4,5,6,7,8,9,10,11],[0,1,2,3,4,5,6,7,8,9,10,11,12]] [44,45,46,47,48,49,50,51,52,53,54,55] [] (by kernel_rfl) (by kernel_rfl) (by kernel_rfl) (by kernel_rfl) (by exact trivial) ?_)|(refine And.intro ?_ ?_;(try simp only[sxO]at *);omega)|fail)<;>(try simp (maxSteps:=1000000) only [cE_ment,hasK_nil,cE_kill,cE_len,u32_one,u32_app1,u32_set,Nat.mul_one,tmSt,hu.one,hv.one,hu.len,hu.sl,hl,d1,hlo,↓hold_pre,awayP,runOps,regK,step1,newK,genR,appR,obl,buildR,Value.cells,closeK,keepH,outV,retK,ret1,retC,RetV,Option.getD,runD,stepD,afterK,undef,Int.reduceAdd,Int.reduceEq,Int.reduceGE,Int.reduceGT,Int.reduceLE,Int.reduceLT,Int.reduceMul,Int.reduceNe,Int.reduceNeg,Int.reduceSub,Int.reduceToNat,Nat.reduceAdd,Nat.reduceBEq,Nat.reduceBeqDiff,Nat.reduceEqDiff,Nat.reduceLT,Nat.reduceLeDiff,Nat.reduceMul,Nat.reduceSub,reduceCtorEq,↓reduceIte,sxB,↓sxD,sxE,sxTab]))
  rw[hval]at g2
  refine Stop.go ?_
  refine Go1.mk ?_;repeat' ((first|(with_reducible refine Go1.go ?_)|((with_reducible refine isDraw [some 44,some 45,some 46,some 47,some 48,some 49,some 50,some 51,some 52,some 53,some 54,some 55,some 56,some 7] (by decide) ?_);refine draw_rule [(0,[]),(1,[]),(2,[]),(3,[]),(4,[]),(5,[]),(6,[4,5]),(7,[4,5]),(8,[4,5]),(9,[4,5]),(10,[4,5]),(11,[]),(12,[]),(13,[])] [[],[],[],[1,2],[1,2,3],[1,2,3,4],[],[],[6,7],[6,7,8],[6,7,8,9],[1,2,3,4,5,6,7,8,9,10],[0,1,2,3,4,5,6,7,8,9,10,11],[0,1,2,3,4,5,6,7,8,9,10,11,12]] [44,45,46,47,48,49,50,51,52,53,54,55] [] (by kernel_rfl) (by kernel_rfl) (by kernel_rfl) (by kernel_rfl) (by exact trivial) ?_)|(refine And.intro ?_ ?_;(try simp only[sxO]at *);omega)|fail)<;>(try simp (maxSteps:=1000000) only [cE_ment,hasK_nil,cE_kill,cE_len,u32_one,u32_app1,u32_set,Nat.mul_one,g2.one,↓hold_pre,awayP,runOps,regK,step1,newK,genR,appR,obl,buildR,Value.cells,closeK,keepH,outV,retK,ret1,retC,RetV,Option.getD,runD,stepD,afterK,undef,Int.reduceAdd,Int.reduceEq,Int.reduceGE,Int.reduceGT,Int.reduceLE,Int.reduceLT,Int.reduceMul,Int.reduceNe,Int.reduceNeg,Int.reduceSub,Int.reduceToNat,Nat.reduceAdd,Nat.reduceBEq,Nat.reduceBeqDiff,Nat.reduceEqDiff,Nat.reduceLT,Nat.reduceLeDiff,Nat.reduceMul,Nat.reduceSub,reduceCtorEq,↓reduceIte,sxB,↓sxD,sxE,sxTab]))
  exact hK _ _ g1 g2 g3
 have hil:i<(ofN x).length:=by omega
 have hxi:=hu.idx (P:=Try.prog) (T:=55) tk55 tz55 (by omega) hil
 rw[hl]at hxi
 have hx0:(ofN x)[i]<4294967296:=ofN_ok_at hil
 have hgx:(ofN x).getD i 0=(ofN x)[i]:=by simp[List.getD,hil]
 have htk:=take_val (l:=ofN x) (i:=i)
 rw[hgx]at htk
 generalize (ofN x)[i]=a at *
 refine Go1.mk ?_;repeat' ((first|(with_reducible refine Go1.go ?_)|((with_reducible refine isDraw [some 44,some 45,some 46,some 47,some 48,some 49,some 50,some 51,some 52,some 53,some 54,some 55,some 56,some 7] (by decide) ?_);refine draw_rule [(0,[]),(1,[]),(2,[]),(3,[]),(4,[]),(5,[]),(6,[4,5]),(7,[4,5]),(8,[4,5]),(9,[4,5]),(10,[4,5]),(11,[]),(12,[]),(13,[])] [[],[],[],[1,2],[1,2,3],[1,2,3,4],[],[],[6,7],[6,7,8],[6,7,8,9],[1,2,3,4,5,6,7,8,9,10],[0,1,2,3,4,5,6,7,8,9,10,11],[0,1,2,3,4,5,6,7,8,9,10,11,12]] [44,45,46,47,48,49,50,51,52,53,54,55] [] (by kernel_rfl) (by kernel_rfl) (by kernel_rfl) (by kernel_rfl) (by exact trivial) ?_)|(refine And.intro ?_ ?_;(try simp only[sxO]at *);omega)|fail)<;>(try simp (maxSteps:=1000000) only [cE_ment,hasK_nil,cE_kill,cE_len,u32_one,u32_app1,u32_set,Nat.mul_one,tmSt,hu.one,hv.one,hu.len,hu.sl,hl,hxi,hlo,↓hold_pre,awayP,runOps,regK,step1,newK,genR,appR,obl,buildR,Value.cells,closeK,keepH,outV,retK,ret1,retC,RetV,Option.getD,runD,stepD,afterK,undef,Int.reduceAdd,Int.reduceEq,Int.reduceGE,Int.reduceGT,Int.reduceLE,Int.reduceLT,Int.reduceMul,Int.reduceNe,Int.reduceNeg,Int.reduceSub,Int.reduceToNat,Nat.reduceAdd,Nat.reduceBEq,Nat.reduceBeqDiff,Nat.reduceEqDiff,Nat.reduceLT,Nat.reduceLeDiff,Nat.reduceMul,Nat.reduceSub,reduceCtorEq,↓reduceIte,sxB,↓sxD,sxE,sxTab]))
 refine ⟨tiI M u v (ofN y) (la+lb) i a lb out,⟨lb+1,tiSt M u v (la+lb) i 0 0 out,le_sub ⟨rfl,rfl,rfl,rfl,rfl,rfl,trivial⟩ ⟨rfl,trivial⟩ rfl rfl rfl (keepLt0 _),⟨0,0,out,rfl,by omega,fun _=>rfl,hlo,ho,by omega,by simp[valN],fun j h h2 _=>rfl,rfl⟩⟩,?_⟩
 rintro d z ⟨k,c,o,rfl,hk,hcz,hlo2,hoo,hc,hv2,hrest,rfl⟩
 have w2:IntKind.i64.wrap ((i:Int)+(k:Int))=((i+k:Nat):Int):=by rw[wrap_id (by omega) (by omega)];omega
 have w3:IntKind.i64.wrap ((k:Int)+1)=((k+1:Nat):Int):=succ_i (by omega)
 have w4:IntKind.i64.wrap ((i:Int)+1)=((i+1:Nat):Int):=succ_i (by omega)
 by_cases hkl:k<lb
 ·have hky:k<(ofN y).length:=by omega
  have hyi:=hv.idx (P:=Try.prog) (T:=55) tk55 tz55 (by omega) hky
  rw[hm]at hyi
  have hy0:=ofN_ok_at hky
  have hgy:(ofN y).getD k 0=(ofN y)[k]:=by simp[List.getD,hky]
  have hik:i+k<o.length:=by omega
  have ho0:=okN_at hoo hik
  have hat:=u32_at hik
  have hst:=mul_step (x:=a) (y:=(ofN y)[k]) hik hv2
  have hlt2:=mul_lt hx0 hy0 ho0 hc
  generalize (ofN y)[k]=yy at *
  generalize hz0:o[i+k]=z0 at *
  have hxy:=mul_le hx0 hy0
  have e5:a*yy+z0+c=c+z0+a*yy:=by omega
  rw[e5]at hst hlt2
  have d2:(0:Int)≤((i+k:Nat):Int):=by omega
  have d3:((i+k:Nat):Int)<((la+lb:Nat):Int):=by omega
  have d4:(i+k<la+lb)=True:=by simp;omega
  have v1:IntKind.u64.wrap (z0:Int)=(z0:Int):=wrap64_id (by omega)
  have v2:IntKind.u64.wrap ((c:Int)+(z0:Int))=((c+z0:Nat):Int):=by rw[←Int.natCast_add,wrap64_id (by omega)]
  have v3:IntKind.u64.wrap (a:Int)=(a:Int):=wrap64_id (by omega)
  have v4:IntKind.u64.wrap (yy:Int)=(yy:Int):=wrap64_id (by omega)
  have v5:IntKind.u64.wrap ((a:Int)*(yy:Int))=((a*yy:Nat):Int):=by rw[←Int.natCast_mul,wrap64_id (by omega)]
  have v6:IntKind.u64.wrap (((c+z0:Nat):Int)+((a*yy:Nat):Int))=((c+z0+a*yy:Nat):Int):=by rw[←Int.natCast_add,wrap64_id (by omega)]
  have v7:=wrap32 (c+z0+a*yy)
  have v8:=shr32 (c+z0+a*yy)
  refine Go1.mk ?_;repeat' ((first|(with_reducible refine Go1.go ?_)|((with_reducible refine isDraw [some 44,some 45,some 46,some 47,some 48,some 49,some 50,some 51,some 52,some 53,some 54,some 55,some 56,some 7] (by decide) ?_);refine draw_rule [(0,[]),(1,[]),(2,[]),(3,[]),(4,[]),(5,[]),(6,[4,5]),(7,[4,5]),(8,[4,5]),(9,[4,5]),(10,[4,5]),(11,[]),(12,[]),(13,[])] [[],[],[],[1,2],[1,2,3],[1,2,3,4],[],[],[6,7],[6,7,8],[6,7,8,9],[1,2,3,4,5,6,7,8,9,10],[0,1,2,3,4,5,6,7,8,9,10,11],[0,1,2,3,4,5,6,7,8,9,10,11,12]] [44,45,46,47,48,49,50,51,52,53,54,55] [] (by kernel_rfl) (by kernel_rfl) (by kernel_rfl) (by kernel_rfl) (by exact trivial) ?_)|(refine And.intro ?_ ?_;(try simp only[sxO]at *);omega)|fail)<;>(try simp (maxSteps:=1000000) only [cE_ment,hasK_nil,cE_kill,cE_len,u32_one,u32_app1,u32_set,Nat.mul_one,tiSt,u32V,hu.one,hv.one,hu.len,hu.sl,hl,hm,hxi,hyi,hat,d2,d3,d4,w2,v1,v2,v3,v4,v5,v6,v7,v8,hlo2,↓hold_pre,awayP,runOps,regK,step1,newK,genR,appR,obl,buildR,Value.cells,closeK,keepH,outV,retK,ret1,retC,RetV,Option.getD,runD,stepD,afterK,undef,Int.reduceAdd,Int.reduceEq,Int.reduceGE,Int.reduceGT,Int.reduceLE,Int.reduceLT,Int.reduceMul,Int.reduceNe,Int.reduceNeg,Int.reduceSub,Int.reduceToNat,Nat.reduceAdd,Nat.reduceBEq,Nat.reduceBeqDiff,Nat.reduceEqDiff,Nat.reduceLT,Nat.reduceLeDiff,Nat.reduceMul,Nat.reduceSub,reduceCtorEq,↓reduceIte,sxB,↓sxD,sxE,sxTab]))
  exact ⟨lb+1-(k+1),tiSt M u v (la+lb) i (k+1) _ _,by omega,le_sub ⟨rfl,rfl,rfl,rfl,rfl,rfl,trivial⟩ ⟨rfl,trivial⟩ rfl rfl rfl (keepLt0 _),k+1,_,_,rfl,by omega,fun h=>by omega,by rw[List.length_set];exact hlo2,okN_set hoo (Nat.mod_lt _ (by decide)),by omega,by
   rw[take_val,hgy];exact hst,fun j h h2 hj=>by
    rw[List.getElem_set_ne (by omega)]
    exact hrest j (by simpa using h) h2 (by omega),rfl⟩
 ·have hyl:=hv.fin (i:=k) (by omega)
  rw[hm]at hyl
  have htky:valN ((ofN y).take k)=y:=by rw[take_all (by omega),valN_ofN]
  rw[htky]at hv2
  by_cases h0:c=0
  ·subst h0
   have d1:decide ((0:Int)<((0:Nat):Int))=false:=by decide
   rw[Nat.mul_zero,Nat.add_zero]at hv2
   refine Go1.mk ?_;repeat' ((first|(with_reducible refine Go1.go ?_)|((with_reducible refine isDraw [some 44,some 45,some 46,some 47,some 48,some 49,some 50,some 51,some 52,some 53,some 54,some 55,some 56,some 7] (by decide) ?_);refine draw_rule [(0,[]),(1,[]),(2,[]),(3,[]),(4,[]),(5,[]),(6,[4,5]),(7,[4,5]),(8,[4,5]),(9,[4,5]),(10,[4,5]),(11,[]),(12,[]),(13,[])] [[],[],[],[1,2],[1,2,3],[1,2,3,4],[],[],[6,7],[6,7,8],[6,7,8,9],[1,2,3,4,5,6,7,8,9,10],[0,1,2,3,4,5,6,7,8,9,10,11],[0,1,2,3,4,5,6,7,8,9,10,11,12]] [44,45,46,47,48,49,50,51,52,53,54,55] [] (by kernel_rfl) (by kernel_rfl) (by kernel_rfl) (by kernel_rfl) (by exact trivial) ?_)|(refine And.intro ?_ ?_;(try simp only[sxO]at *);omega)|fail)<;>(try simp (maxSteps:=1000000) only [cE_ment,hasK_nil,cE_kill,cE_len,u32_one,u32_app1,u32_set,Nat.mul_one,tiSt,u32V,hu.one,hv.one,hyl,d1,w4,hlo2,↓hold_pre,awayP,runOps,regK,step1,newK,genR,appR,obl,buildR,Value.cells,closeK,keepH,outV,retK,ret1,retC,RetV,Option.getD,runD,stepD,afterK,undef,Int.reduceAdd,Int.reduceEq,Int.reduceGE,Int.reduceGT,Int.reduceLE,Int.reduceLT,Int.reduceMul,Int.reduceNe,Int.reduceNeg,Int.reduceSub,Int.reduceToNat,Nat.reduceAdd,Nat.reduceBEq,Nat.reduceBeqDiff,Nat.reduceEqDiff,Nat.reduceLT,Nat.reduceLeDiff,Nat.reduceMul,Nat.reduceSub,reduceCtorEq,↓reduceIte,sxB,↓sxD,sxE,sxTab]))
   exact ⟨la-(i+1),tmSt M u v (la+lb) (i+1) o,by omega,le_sub ⟨rfl,rfl,rfl,rfl,trivial⟩ ⟨rfl,trivial⟩ rfl rfl rfl (keepLt0 _),i+1,o,rfl,by omega,hlo2,hoo,by
    rw[hv2,hval,htk,Nat.add_mul,Nat.mul_assoc],fun j h hj=>by
    rcases Nat.lt_or_ge j (i+k) with hj2|hj2
    ·omega
    ·rw[hrest j h (by omega) hj2];exact hzz j (by omega) (by omega),rfl⟩
  ·have hk2:k=lb:=by
    rcases Nat.lt_or_ge lb k with h|h
    ·exact absurd (hcz h) h0
    ·omega
   subst hk2
   have hik:i+k<o.length:=by omega
   have hat:=u32_at hik
   have hz1:o[i+k]=0:=by rw[hrest _ hik (by omega) (Nat.le_refl _)];exact hzz _ (by omega) (Nat.le_refl _)
   have hst:=valN_set (v:=c) hik
   rw[hz1,Nat.mul_zero,Nat.add_zero,hv2]at hst
   rw[hz1]at hat
   have d1:decide ((0:Int)<(c:Int))=true:=by rw[decide_eq_true_eq];omega
   have d2:(0:Int)≤((i+k:Nat):Int):=by omega
   have d3:((i+k:Nat):Int)<((la+k:Nat):Int):=by omega
   have d4:(i+k<la+k)=True:=by simp;omega
   have v1:IntKind.u64.wrap ((0:Nat):Int)=((0:Nat):Int):=rfl
   have v2:IntKind.u64.wrap ((c:Int)+((0:Nat):Int))=(c:Int):=by rw[←Int.natCast_add,Nat.add_zero,wrap64_id (by omega)]
   have v7:IntKind.u32.wrap (c:Int)=(c:Int):=wrap32_id hc
   have v8:(c:Int).fdiv (2^(min 32 IntKind.u64.bits))=((0:Nat):Int):=by rw[shr32,Nat.div_eq_of_lt hc]
   refine Go1.mk ?_;repeat' ((first|(with_reducible refine Go1.go ?_)|((with_reducible refine isDraw [some 44,some 45,some 46,some 47,some 48,some 49,some 50,some 51,some 52,some 53,some 54,some 55,some 56,some 7] (by decide) ?_);refine draw_rule [(0,[]),(1,[]),(2,[]),(3,[]),(4,[]),(5,[]),(6,[4,5]),(7,[4,5]),(8,[4,5]),(9,[4,5]),(10,[4,5]),(11,[]),(12,[]),(13,[])] [[],[],[],[1,2],[1,2,3],[1,2,3,4],[],[],[6,7],[6,7,8],[6,7,8,9],[1,2,3,4,5,6,7,8,9,10],[0,1,2,3,4,5,6,7,8,9,10,11],[0,1,2,3,4,5,6,7,8,9,10,11,12]] [44,45,46,47,48,49,50,51,52,53,54,55] [] (by kernel_rfl) (by kernel_rfl) (by kernel_rfl) (by kernel_rfl) (by exact trivial) ?_)|(refine And.intro ?_ ?_;(try simp only[sxO]at *);omega)|fail)<;>(try simp (maxSteps:=1000000) only [cE_ment,hasK_nil,cE_kill,cE_len,u32_one,u32_app1,u32_set,Nat.mul_one,tiSt,u32V,hu.one,hv.one,hu.len,hu.sl,hl,hyl,hat,d1,d2,d3,d4,w2,w3,v1,v2,v7,v8,hlo2,↓hold_pre,awayP,runOps,regK,step1,newK,genR,appR,obl,buildR,Value.cells,closeK,keepH,outV,retK,ret1,retC,RetV,Option.getD,runD,stepD,afterK,undef,Int.reduceAdd,Int.reduceEq,Int.reduceGE,Int.reduceGT,Int.reduceLE,Int.reduceLT,Int.reduceMul,Int.reduceNe,Int.reduceNeg,Int.reduceSub,Int.reduceToNat,Nat.reduceAdd,Nat.reduceBEq,Nat.reduceBeqDiff,Nat.reduceEqDiff,Nat.reduceLT,Nat.reduceLeDiff,Nat.reduceMul,Nat.reduceSub,reduceCtorEq,↓reduceIte,sxB,↓sxD,sxE,sxTab]))
   exact ⟨k+1-(k+1),tiSt M u v (la+k) i (k+1) 0 _,by omega,le_sub ⟨rfl,rfl,rfl,rfl,rfl,rfl,trivial⟩ ⟨rfl,trivial⟩ rfl rfl rfl (keepLt0 _),k+1,_,_,rfl,by omega,fun _=>rfl,by rw[List.length_set];exact hlo2,okN_set hoo hc,by omega,by
    rw[take_all (by omega),valN_ofN,Nat.mul_zero,Nat.add_zero];exact hst,fun j h h2 hj=>by
     rw[List.getElem_set_ne (by omega)]
     exact hrest j (by simpa using h) h2 (by omega),rfl⟩
end
end Go.Proofs.Ytjapnklocibgaaa.Sx
namespace Go.Proofs.Ytjapnklocibgaaa.Sx
open Go Go.RowKit
set_option linter.unusedVariables false
set_option linter.unusedSimpArgs false
set_option maxRecDepth 100000
set_option maxHeartbeats 8000000
attribute [local congr] fin_congr finG_congr stepG_congr step1_congr runOps_congr brv_congr obl_congr condK_congr LoopK_congr seqK_congr CutK_congr vc_congr DrawK_congr regK_congr CallK_congr AskK_congr newK_congr retC_congr ret1_congr retK_congr outV_congr closeK_congr genR_congr appR_congr finD_congr finGD_congr stepGD_congr stepD_congr CallK0_congr runD_congr okR_congr CallS_congr vcX_congr
attribute [local congr] Stop_congr
section
variable {M:Mem}{K:AV→Hp→Mem→Prop}
theorem u32_part{L:List Nat}{off m i:Nat}(h:off+m≤L.length)(hi:i<m){hil:i<((L.drop off).take m).length}:(cE u32V L)[off+i]? = some (.ext (.int .u32 (((L.drop off).take m)[i]:Int))):=by
 have e:L[off+i]? = some (((L.drop off).take m)[i]):=by
  rw[List.getElem_take,List.getElem_drop]
  exact List.getElem?_eq_getElem (by omega)
 unfold cE
 rw[List.getElem?_map,List.getElem?_map,e];rfl
def cuSt(M:Mem)(k off m j:Nat)(L:List Nat):St:={env:=[(3,.ext (.int .i64 (j:Int))),(0,.slo k off m 1)],hp:=[(k,55,cE u32V L)],M:=M,kb:=k+1,fx:=[k]}
theorem cut_ok(k off m:Nat)(L:List Nat)(hm:off+m≤L.length)(hb:m<1000000000)(ho:okN L)(hK:∀m',((L.drop off).take m).take m'=ofN (valN ((L.drop off).take m))→m'=(ofN (valN ((L.drop off).take m))).length→m'≤m→K (.slo k off m' 1) [(k,55,cE u32V L)] M) :
  CallS Try.prog 103 [.slo k off m 1] [(k,55,cE u32V L)] M [] K:=by
 refine inlS (cs:=[]) (f:=103) Try.mixed Try.func103 rfl (by kernel_rfl) (k+1) rfl (by simp[ltB,keysH]) ?_
 simp only[Try.f103]
 refine Go1.mk ?_;repeat' ((first|(with_reducible refine Go1.go ?_)|(refine And.intro ?_ ?_;(try simp only[sxO]at *);omega)|fail)<;>(try simp (maxSteps:=1000000) only [cE_ment,hasK_nil,cE_kill,cE_len,u32_one,u32_app1,u32_set,Nat.mul_one,↓hold_pre,awayP,runOps,regK,step1,newK,genR,appR,obl,buildR,Value.cells,closeK,keepH,outV,retK,ret1,retC,RetV,Option.getD,runD,stepD,afterK,undef,simprocAttr,sxB,↓sxD,sxE,sxTab]))
 have hll:((L.drop off).take m).length=m:=by rw[List.length_take,List.length_drop];omega
 have hol:=okN_take (okN_drop ho off) m
 have hat:∀i (h:i<((L.drop off).take m).length),(cE u32V L)[off+i]? = some (.ext (.int .u32 (((L.drop off).take m)[i]:Int))):=fun i h=>u32_part hm (by omega)
 generalize (L.drop off).take m=l at *
 refine ⟨fun d z=>∃j,j=d∧j≤m∧(∀i (h:i<l.length),j≤i→l[i]=0)∧z=cuSt M k off m j L,⟨m,cuSt M k off m m L,le_sub ⟨rfl,rfl,trivial⟩ ⟨by simp[lkH],trivial⟩ rfl rfl rfl (by simp[keepLt,cuSt,lkH]),⟨_,rfl,Nat.le_refl _,fun i h hi=>by omega,rfl⟩⟩,?_⟩
 rintro d z ⟨j,rfl,hj,hz,rfl⟩
 have d6:(j:Int)≤(m:Int):=by omega
 have d7:(0:Int)≤(j:Int):=by omega
 have key:(∀h:0<j,l[j-1]≠0)→K (.slo k off j 1) [(k,55,cE u32V L)] M:=fun h=>by
  have e:=take_canon hol (by omega) hz h
  exact hK j e (by rw[←e,List.length_take];omega) hj
 by_cases hlt:0<j
 case neg=>
  obtain rfl:j=0:=by omega
  have d1:decide ((0:Int)<((0:Nat):Int))=false:=by decide
  refine Go1.mk ?_;repeat' ((first|(with_reducible refine Go1.go ?_)|(refine And.intro ?_ ?_;(try simp only[sxO]at *);omega)|fail)<;>(try simp (maxSteps:=1000000) only [cE_ment,hasK_nil,cE_kill,cE_len,u32_one,u32_app1,u32_set,Nat.mul_one,cuSt,d1,d6,d7,Nat.sub_zero,↓hold_pre,awayP,runOps,regK,step1,newK,genR,appR,obl,buildR,Value.cells,closeK,keepH,outV,retK,ret1,retC,RetV,Option.getD,runD,stepD,afterK,undef,simprocAttr,sxB,↓sxD,sxE,sxTab]))
  exact key (fun h=>by omega)
 have d1:decide ((0:Int)<(j:Int))=true:=by simp;omega
 have w1:=pred_i hlt (by omega)
 have hi:j-1<l.length:=by omega
 have hat2:=hat _ hi
 have d2:(0:Int)≤((j-1:Nat):Int):=by omega
 have d3:((j-1:Nat):Int)<(m:Int):=by omega
 by_cases h0:l[j-1]=0
 ·have d4:decide ((l[j-1]:Int)=0)=true:=by simp;omega
  refine Go1.mk ?_;repeat' ((first|(with_reducible refine Go1.go ?_)|(refine And.intro ?_ ?_;(try simp only[sxO]at *);omega)|fail)<;>(try simp (maxSteps:=1000000) only [cE_ment,hasK_nil,cE_kill,cE_len,u32_one,u32_app1,u32_set,Nat.mul_one,cuSt,d1,d2,d3,d4,w1,hat2,↓hold_pre,awayP,runOps,regK,step1,newK,genR,appR,obl,buildR,Value.cells,closeK,keepH,outV,retK,ret1,retC,RetV,Option.getD,runD,stepD,afterK,undef,simprocAttr,sxB,↓sxD,sxE,sxTab]))
  exact ⟨j-1,cuSt M k off m (j-1) L,by omega,le_sub ⟨rfl,rfl,trivial⟩ ⟨by simp[lkH],trivial⟩ rfl rfl rfl (by simp[keepLt,cuSt,lkH]),j-1,rfl,by omega,fun i h hi=>by
   rcases Nat.lt_or_ge i j with h1|h1
   ·obtain rfl:i=j-1:=by omega
    exact h0
   ·exact hz i h h1,rfl⟩
 ·have d4:decide ((l[j-1]:Int)=0)=false:=by simp;omega
  refine Go1.mk ?_;repeat' ((first|(with_reducible refine Go1.go ?_)|(refine And.intro ?_ ?_;(try simp only[sxO]at *);omega)|fail)<;>(try simp (maxSteps:=1000000) only [cE_ment,hasK_nil,cE_kill,cE_len,u32_one,u32_app1,u32_set,Nat.mul_one,cuSt,d1,d2,d3,d4,d6,d7,w1,hat2,Nat.sub_zero,↓hold_pre,awayP,runOps,regK,step1,newK,genR,appR,obl,buildR,Value.cells,closeK,keepH,outV,retK,ret1,retC,RetV,Option.getD,runD,stepD,afterK,undef,simprocAttr,sxB,↓sxD,sxE,sxTab]))
  exact key (fun h=>h0)
structure OwnN (L:List Nat) (o m x:Nat):Prop where
 le:o+m≤L.length
 ok:okN L
 eq:(L.drop o).take m=ofN x
theorem OwnN.len{L:List Nat}{o m x:Nat}(h:OwnN L o m x):m=(ofN x).length:=by
 rw[←h.eq,List.length_take,List.length_drop]
 have:=h.le
 omega
theorem OwnN.val{L:List Nat}{o m x:Nat}(h:OwnN L o m x):valN ((L.drop o).take m)=x:=by rw[h.eq,valN_ofN]
theorem down_plain{l:List Nat}(ho:okN l)(n:Nat):valN (l.drop (min l.length (n / 32))) / 2^(n % 32)=valN l / 2^n:=by
 rcases Nat.lt_or_ge (n / 32) l.length with h|h
 ·rw[Nat.min_eq_right (by omega),valN_drop_div ho (by omega),wN_two,Nat.div_div_eq_div_mul,←Nat.pow_add,Nat.div_add_mod]
 ·rw[Nat.min_eq_left h,List.drop_of_length_le (Nat.le_refl _),show valN []=0 from rfl,Nat.zero_div]
  symm
  apply Nat.div_eq_of_lt
  have h1:=valN_lt ho
  rw[wN_two]at h1
  exact Nat.lt_of_lt_of_le h1 (Nat.pow_le_pow_right (by decide) (by omega))
def dnSt(M:Mem)(k o m n i:Nat)(L:List Nat):St:={env:=[(5,.ext (.int .i64 (i:Int))),(0,.slo k o m 1),(1,.ext (.int .i64 (n:Int)))],hp:=[(k,55,cE u32V L)],M:=M,kb:=k+1,fx:=[k]}
theorem down_ok(k off m n:Nat)(L:List Nat)(hm:off+m≤L.length)(hb:L.length<100000000)(hn:n<1000000000000)(ho:okN L)(hK:∀L' o' m',L'.length=L.length→OwnN L' o' m' (valN ((L.drop off).take m) / 2^n)→K (.slo k o' m' 1) [(k,55,cE u32V L')] M) :
  CallS Try.prog 92 [.slo k off m 1,.ext (.int .i64 (n:Int))] [(k,55,cE u32V L)] M [] K:=by
 refine inlS (cs:=[]) (f:=92) Try.mixed Try.func92 rfl (by kernel_rfl) (k+1) rfl (by simp[ltB,keysH]) ?_
 simp only[Try.f92]
 obtain ⟨w,hw⟩:∃w,min m (n / 32)=w:=⟨_,rfl⟩
 have w1:IntKind.i64.wrap ((n:Int).tdiv 32)=((n / 32:Nat):Int):=by
  rw[show (32:Int)=((32:Nat):Int) from rfl,←Int.ofNat_tdiv,wrap_id (by omega) (by omega)]
 have w2:(if ((n / 32:Nat):Int)<(m:Int) then ((n / 32:Nat):Int) else (m:Int))=(w:Int):=by
  split<;>omega
 have d1:(0:Int)≤(w:Int):=by omega
 have d2:(w:Int)≤(m:Int):=by omega
 have d3:(m:Int)≤(m:Int):=by omega
 refine Go1.mk ?_;repeat' ((first|(with_reducible refine Go1.go ?_)|(refine And.intro ?_ ?_;(try simp only[sxO]at *);omega)|fail)<;>(try simp (maxSteps:=1000000) only [cE_ment,hasK_nil,cE_kill,cE_len,u32_one,u32_app1,u32_set,Nat.mul_one,w1,w2,d1,d2,d3,↓hold_pre,awayP,runOps,regK,step1,newK,genR,appR,obl,buildR,Value.cells,closeK,keepH,outV,retK,ret1,retC,RetV,Option.getD,runD,stepD,afterK,undef,simprocAttr,sxB,↓sxD,sxE,sxTab]))
 have hwm:w≤m:=by omega
 obtain ⟨o,hoo⟩:∃o,off+w=o:=⟨_,rfl⟩
 obtain ⟨m2,hm2⟩:∃m2,m-w=m2:=⟨_,rfl⟩
 rw[hoo,hm2]
 have hll:((L.drop off).take m).length=m:=by rw[List.length_take,List.length_drop];omega
 have hpl:=down_plain (okN_take (okN_drop ho off) m) n
 rw[hll,hw]at hpl
 have hdd:((L.drop off).take m).drop w=(L.drop o).take m2:=by
  rw[List.drop_take,List.drop_drop,hoo,hm2]
 rw[hdd]at hpl
 rw[←hpl]at hK
 have hL:L=L.take o++((L.drop o).take m2++L.drop (o+m2)):=by
  rw[←List.drop_drop,List.take_append_drop,List.take_append_drop]
 have hCl:((L.drop o).take m2).length=m2:=by rw[List.length_take,List.length_drop];omega
 have hPl:(L.take o).length=o:=by rw[List.length_take];omega
 have hoC:=okN_take (okN_drop ho o) m2
 have hoP:=okN_take ho o
 have hoS:=okN_drop ho (o+m2)
 have hLl:((L.take o).length+m2+(L.drop (o+m2)).length)=L.length:=by rw[hPl,List.length_drop];omega
 clear hpl hdd hll
 generalize L.take o=P at *
 generalize (L.drop o).take m2=C0 at *
 generalize L.drop (o+m2)=S at *
 subst hL
 have w3:(n:Int).tmod 32=((n % 32:Nat):Int):=by rw[show (32:Int)=((32:Nat):Int) from rfl,←Int.ofNat_tmod]
 have hs32:n % 32<32:=Nat.mod_lt _ (by decide)
 generalize n % 32=s at *
 refine ⟨fun d z=>∃i C,d=m2-i∧i≤m2∧C.length=m2∧okN C∧C.drop i=C0.drop i∧valN (C.take i)=valN C0 / 2^s % wN i∧z=dnSt M k o m2 n i (P++(C++S)),
  ⟨m2,dnSt M k o m2 n 0 (P++(C0++S)),le_sub ⟨rfl,rfl,rfl,trivial⟩ ⟨by simp[lkH],trivial⟩ rfl rfl rfl (by simp[keepLt,dnSt,lkH]),⟨0,C0,rfl,by omega,hCl,hoC,rfl,by simp[valN,wN,Nat.mod_one],rfl⟩⟩,?_⟩
 rintro d z ⟨i,C,rfl,hi,hC,hoC2,hdr,hval,rfl⟩
 by_cases hlt:i<m2
 case neg=>
  obtain rfl:i=m2:=by omega
  have d5:decide ((i:Int)<(i:Int))=false:=by simp
  have e1:valN C=valN C0 / 2^s:=by
   rw[take_all (by omega)]at hval
   rw[hval]
   refine Nat.mod_eq_of_lt (Nat.lt_of_le_of_lt (Nat.div_le_self _ _) ?_)
   rw[←hCl];exact valN_lt hoC
  have hpart:((P++(C++S)).drop o).take i=C:=by
   rw[←hPl,List.drop_left,←hC,List.take_left]
  have hfl:(P++(C++S)).length=(P++(C0++S)).length:=by simp[hC,hCl]
  have hok:okN (P++(C++S)):=okN_app.2 ⟨hoP,okN_app.2 ⟨hoC2,hoS⟩⟩
  have hol:o+i≤(P++(C++S)).length:=by simp[hC,hPl]
  refine Go1.mk ?_;repeat' ((first|(with_reducible refine Go1.go ?_)|((with_reducible refine isCall (f:=103) ?_);refine callA ?_)|((with_reducible refine isCallS (f:=103) ?_);refine (cut_ok k o i (P++(C++S)) hol (by omega) hok (fun m' c1 c2 c3=>Stop.mk ?_)))|(refine And.intro ?_ ?_;(try simp only[sxO]at *);omega)|fail)<;>(try simp (maxSteps:=1000000) only [cE_ment,hasK_nil,cE_kill,cE_len,u32_one,u32_app1,u32_set,Nat.mul_one,dnSt,d5,↓hold_pre,awayP,runOps,regK,step1,newK,genR,appR,obl,buildR,Value.cells,closeK,keepH,outV,retK,ret1,retC,RetV,Option.getD,runD,stepD,afterK,undef,simprocAttr,sxB,↓sxD,sxE,sxTab]))
  rw[hpart,e1]at c1 c2
  refine Stop.go ?_
  refine Go1.mk ?_;repeat' ((first|(with_reducible refine Go1.go ?_)|(refine And.intro ?_ ?_;(try simp only[sxO]at *);omega)|fail)<;>(try simp (maxSteps:=1000000) only [cE_ment,hasK_nil,cE_kill,cE_len,u32_one,u32_app1,u32_set,Nat.mul_one,↓hold_pre,awayP,runOps,regK,step1,newK,genR,appR,obl,buildR,Value.cells,closeK,keepH,outV,retK,ret1,retC,RetV,Option.getD,runD,stepD,afterK,undef,simprocAttr,sxB,↓sxD,sxE,sxTab]))
  refine hK _ o m' hfl ⟨by omega,hok,?_⟩
  have hp2:=congrArg (List.take m') hpart
  rw[List.take_take,Nat.min_eq_left c3]at hp2
  rw[←c1,hp2]
 have hiC:i<C.length:=by omega
 have hat:=u32_mid (S:=S) hPl hiC
 have hx0:=okN_at hoC2 hiC
 have hCi:C[i]=C0[i]'(by omega):=by
  have e1:(C.drop i)[0]? = (C0.drop i)[0]?:=by rw[hdr]
  rw[List.getElem?_drop,List.getElem?_drop,Nat.add_zero,List.getElem?_eq_getElem hiC,List.getElem?_eq_getElem (by omega)]at e1
  exact Option.some.inj e1
 have hdr0:=valN_drop (l:=C0) (show i<C0.length by omega)
 rw[←hCi]at hdr0
 have hdv:=valN_drop_div hoC (i:=i) (by omega)
 have hwd:=wN_div (valN C0) i (n:=s)
 have d4:decide ((i:Int)<(m2:Int))=true:=by simp;omega
 have d5:(0:Int)≤(i:Int):=by omega
 have d6:(i:Int)<(m2:Int):=by omega
 have d7:(o+i<(P++(C++S)).length)=True:=by simp[hC,hPl];omega
 have w4:IntKind.i64.wrap ((i:Int)+1)=((i+1:Nat):Int):=succ_i (by omega)
 have fin:∀(r:Nat) (st:St),r<4294967296→valN C0 / wN i / 2^s % 4294967296=r→lk st.env 5=.ext (.int .i64 ((i+1:Nat):Int))→lk st.env 0=.slo k o m2 1→lk st.env 1=.ext (.int .i64 (n:Int))→lkH st.hp k=some (55,cE u32V (P++(C.set i r++S)))→st.M=M→st.kb=k+1→st.fx=[k]→keepLt (k+1) [(k,55,cE u32V (P++(C.set i r++S)))] st.hp→
   ∃m' z,m'<m2-i∧Le st z∧∃i C,m'=m2-i∧i≤m2∧C.length=m2∧okN C∧C.drop i=C0.drop i∧valN (C.take i)=valN C0 / 2^s % wN i∧z=dnSt M k o m2 n i (P++(C++S)):=fun r st hr hd e5 e0 e1 eh eM ek ef hkl=>
  ⟨m2-(i+1),dnSt M k o m2 n (i+1) (P++(C.set i r++S)),by omega,le_sub ⟨e5,e0,e1,trivial⟩ ⟨eh,trivial⟩ eM.symm ek.symm ef.symm (by rw[ek];exact hkl),i+1,_,rfl,by omega,by rw[List.length_set];exact hC,okN_set hoC2 hr,by
   rw[List.drop_set_of_lt (by omega)]
   have:=congrArg (List.drop 1) hdr
   rw[List.drop_drop,List.drop_drop]at this
   exact this,by
   rw[take_set_self hiC,valN_snoc,List.length_take,Nat.min_eq_left (by omega),hval,hwd,hd],rfl⟩
 have v1:IntKind.u64.wrap (C[i]:Int)=(C[i]:Int):=wrap64_id (by omega)
 by_cases hy:i+1<m2
 ·have hiC2:i+1<C.length:=by omega
  have hat2:=u32_mid (S:=S) hPl hiC2
  have hy0:=okN_at hoC2 hiC2
  have hCj:C[i+1]=C0[i+1]'(by omega):=by
   have e1:(C.drop i)[1]? = (C0.drop i)[1]?:=by rw[hdr]
   rw[List.getElem?_drop,List.getElem?_drop,List.getElem?_eq_getElem hiC2,List.getElem?_eq_getElem (by omega)]at e1
   exact Option.some.inj e1
  have hdr2:=valN_drop (l:=C0) (show i+1<C0.length by omega)
  rw[←hCj]at hdr2
  have d8:decide (((i+1:Nat):Int)<(m2:Int))=true:=by rw[decide_eq_true_eq];omega
  have d9:(0:Int)≤((i+1:Nat):Int):=by omega
  have d10:((i+1:Nat):Int)<(m2:Int):=by omega
  obtain ⟨b,hbe⟩:∃b,C[i+1]=b:=⟨_,rfl⟩
  obtain ⟨a,hae⟩:∃a,C[i]=a:=⟨_,rfl⟩
  rw[hbe]at hat2 hy0 hdr2
  rw[hae]at hat hx0 hdr0 v1
  have v2:IntKind.u64.wrap (b:Int)=(b:Int):=wrap64_id (by omega)
  have v3:=shl32 hy0
  have v4:bits .or .u64 (a:Int) ((b*4294967296:Nat):Int)=((b*4294967296+a:Nat):Int):=by
   rw[bits64_or (by omega) (by omega),Nat.or_comm,show (4294967296:Nat)=2^32 by decide,or_add (by omega)]
  have v5:=shrN (b*4294967296+a) hs32
  have v6:=wrap32 ((b*4294967296+a) / 2^s)
  have hdig:valN C0 / wN i / 2^s % 4294967296=(b*4294967296+a) / 2^s % 4294967296:=by
   rw[←hdv,hdr0,hdr2,shr_digit hs32,Nat.add_comm,Nat.mul_comm 4294967296 b]
  have hms:=mid_set P C S o i ((b*4294967296+a) / 2^s % 4294967296) hPl hiC
  refine Go1.mk ?_;repeat' ((first|(with_reducible refine Go1.go ?_)|(refine And.intro ?_ ?_;(try simp only[sxO]at *);omega)|fail)<;>(try simp (maxSteps:=1000000) only [cE_ment,hasK_nil,cE_kill,cE_len,u32_one,u32_app1,u32_set,Nat.mul_one,dnSt,hat,hat2,d4,d5,d6,d7,d8,d9,d10,w3,w4,v1,v2,v3,v4,v5,v6,hms,↓hold_pre,awayP,runOps,regK,step1,newK,genR,appR,obl,buildR,Value.cells,closeK,keepH,outV,retK,ret1,retC,RetV,Option.getD,runD,stepD,afterK,undef,simprocAttr,sxB,↓sxD,sxE,sxTab]))
  exact fin _ _ (Nat.mod_lt _ (by decide)) hdig rfl rfl rfl (by simp[lkH]) rfl rfl rfl (by simp[keepLt,lkH])
 ·have d8:decide (((i+1:Nat):Int)<(m2:Int))=false:=by rw[decide_eq_false_iff_not];omega
  have hdr2:C0.drop (i+1)=[]:=List.drop_of_length_le (by omega)
  obtain ⟨a,hae⟩:∃a,C[i]=a:=⟨_,rfl⟩
  rw[hae]at hat hx0 hdr0 v1
  have v5:=shrN a hs32
  have v6:=wrap32 (a / 2^s)
  have hdig:valN C0 / wN i / 2^s % 4294967296=a / 2^s % 4294967296:=by
   rw[←hdv,hdr0,hdr2];simp[valN]
  have hms:=mid_set P C S o i (a / 2^s % 4294967296) hPl hiC
  refine Go1.mk ?_;repeat' ((first|(with_reducible refine Go1.go ?_)|(refine And.intro ?_ ?_;(try simp only[sxO]at *);omega)|fail)<;>(try simp (maxSteps:=1000000) only [cE_ment,hasK_nil,cE_kill,cE_len,u32_one,u32_app1,u32_set,Nat.mul_one,dnSt,hat,d4,d5,d6,d7,d8,w3,w4,v1,v5,v6,hms,↓hold_pre,awayP,runOps,regK,step1,newK,genR,appR,obl,buildR,Value.cells,closeK,keepH,outV,retK,ret1,retC,RetV,Option.getD,runD,stepD,afterK,undef,simprocAttr,sxB,↓sxD,sxE,sxTab]))
  exact fin _ _ (Nat.mod_lt _ (by decide)) hdig rfl rfl rfl (by simp[lkH]) rfl rfl rfl (by simp[keepLt,lkH])
end
end Go.Proofs.Ytjapnklocibgaaa.Sx
namespace Go.Proofs.Ytjapnklocibgaaa.Sx
open Go Go.RowKit
set_option linter.unusedVariables false
set_option linter.unusedSimpArgs false
set_option maxRecDepth 100000
set_option maxHeartbeats 8000000
attribute [local congr] fin_congr finG_congr stepG_congr step1_congr runOps_congr brv_congr obl_congr condK_congr LoopK_congr seqK_congr CutK_congr vc_congr DrawK_congr regK_congr CallK_congr AskK_congr newK_congr retC_congr ret1_congr retK_congr outV_congr closeK_congr genR_congr appR_congr finD_congr finGD_congr stepGD_congr stepD_congr CallK0_congr runD_congr okR_congr CallS_congr vcX_congr
attribute [local congr] Stop_congr
section
variable {M:Mem}{K:AV→Hp→Mem→Prop}
end
end Go.Proofs.Ytjapnklocibgaaa.Sx
namespace Go.Proofs.Ytjapnklocibgaaa.Sx
open Go Go.RowKit
set_option linter.unusedVariables false
set_option linter.unusedSimpArgs false
set_option maxRecDepth 100000
set_option maxHeartbeats 8000000
attribute [local congr] fin_congr finG_congr stepG_congr step1_congr runOps_congr brv_congr obl_congr condK_congr LoopK_congr seqK_congr CutK_congr vc_congr DrawK_congr regK_congr CallK_congr AskK_congr newK_congr retC_congr ret1_congr retK_congr outV_congr closeK_congr genR_congr appR_congr finD_congr finGD_congr stepGD_congr stepD_congr CallK0_congr runD_congr okR_congr CallS_congr vcX_congr
attribute [local congr] Stop_congr
section
variable {M:Mem}{K:AV→Hp→Mem→Prop}
theorem shl32s{t s:Nat}(h:t*2^s<4294967296)(hs:s<32):IntKind.u32.wrap ((t:Int)*2^(min s IntKind.u32.bits))=((t*2^s:Nat):Int):=by
 have h1:min s IntKind.u32.bits=s:=by have:IntKind.u32.bits=32:=rfl;omega
 rw[h1,show ((t:Int)*2^s)=((t*2^s:Nat):Int) by simp,wrap32_id h]
end
end Go.Proofs.Ytjapnklocibgaaa.Sx
namespace Go.Proofs.Ytjapnklocibgaaa.Sx
open Go Go.RowKit
set_option linter.unusedVariables false
set_option linter.unusedSimpArgs false
set_option maxRecDepth 100000
set_option maxHeartbeats 8000000
attribute [local congr] fin_congr finG_congr stepG_congr step1_congr runOps_congr brv_congr obl_congr condK_congr LoopK_congr seqK_congr CutK_congr vc_congr DrawK_congr regK_congr CallK_congr AskK_congr newK_congr retC_congr ret1_congr retK_congr outV_congr closeK_congr genR_congr appR_congr finD_congr finGD_congr stepGD_congr stepD_congr CallK0_congr runD_congr okR_congr CallS_congr vcX_congr
attribute [local congr] Stop_congr
theorem zeros_plain{x n c a q r:Nat}(hx:x=wN n*(a+4294967296*r))(ha:a=2^c*q)(ha2:a<4294967296)(hq:q % 2=1):c<32∧∃s,x=2^(32*n+c)*s∧s % 2=1:=by
 have hc:c<32:=by
  rcases Nat.lt_or_ge c 32 with h|h
  ·exact h
  ·have h1:2^32≤2^c:=Nat.pow_le_pow_right (by decide) h
   have h2:=Nat.mul_le_mul_left (2^c) (show 1≤q by omega)
   omega
 refine ⟨hc,q+2^(32-c)*r,?_,?_⟩
 ·have h1:2^c*2^(32-c)=4294967296:=by rw[←Nat.pow_add,show c+(32-c)=32 by omega]
  rw[hx,ha,wN_two,Nat.pow_add,←h1]
  generalize 2^(32*n)=A
  generalize 2^c=B
  generalize 2^(32-c)=D
  grind
 ·obtain ⟨d,hd⟩:∃d,32-c=d+1:=⟨32-c-1,by omega⟩
  rw[hd,Nat.pow_succ,Nat.mul_comm (2^d) 2,Nat.mul_assoc]
  omega
section
variable {M:Mem}{K:AV→Hp→Mem→Prop}
def zeSt(M:Mem)(u:Value)(n:Nat):St:={env:=[(3,.ext (.int .i64 (n:Int))),(0,.ext u)],hp:=[],M:=M,kb:=0,fx:=[]}
def zfSt(M:Mem)(k a:Nat):St:={env:=[(5,.ext (.int .u32 (a:Int))),(4,.ext (.int .i64 (k:Int)))],hp:=[],M:=M,kb:=0,fx:=[]}
theorem zeros_ok(u:Value)(x:Nat)(hu:IsL M u32V u (ofN x))(hx:(ofN x).length<100000000)(hx0:0<x)(hK:∀e q:Nat,e<32*(ofN x).length→x=2^e*q→q % 2=1→K (.ext (.int .i64 (e:Int))) [] M):CallS Try.prog 91 [.ext u] [] M [] K:=by
 refine inlS (cs:=[]) Try.mixed Try.func91 rfl (by kernel_rfl) 0 rfl rfl ?_
 simp only[Try.f91]
 refine Go1.mk ?_;repeat' ((first|(with_reducible refine Go1.go ?_)|(refine And.intro ?_ ?_;(try simp only[sxO]at *);omega)|fail)<;>(try simp (maxSteps:=1000000) only [cE_ment,hasK_nil,cE_kill,cE_len,u32_one,u32_app1,u32_set,Nat.mul_one,hu.one,hu.len,hu.sl,↓hold_pre,awayP,runOps,regK,step1,newK,genR,appR,obl,buildR,Value.cells,closeK,keepH,outV,retK,ret1,retC,RetV,Option.getD,runD,stepD,afterK,undef,simprocAttr,sxB,↓sxD,sxE,sxTab]))
 refine ⟨fun d z=>∃n,d=(ofN x).length-n∧n≤(ofN x).length∧x=wN n*valN ((ofN x).drop n)∧z=zeSt M u n,⟨(ofN x).length,zeSt M u 0,le_sub ⟨rfl,rfl,trivial⟩ trivial rfl rfl rfl (keepLt0 _),⟨0,rfl,by omega,by rw[List.drop_zero,valN_ofN];simp[wN],rfl⟩⟩,?_⟩
 rintro d z ⟨n,rfl,hn,hv,rfl⟩
 have hnl:n<(ofN x).length:=by
  rcases Nat.lt_or_ge n (ofN x).length with h|h
  ·exact h
  ·rw[List.drop_of_length_le h,show valN []=0 from rfl]at hv;omega
 have hxi:=hu.idx (P:=Try.prog) (T:=55) tk55 tz55 (by omega) hnl
 have ha:=ofN_ok_at hnl
 have hdr:=valN_drop hnl
 rw[hdr]at hv
 obtain ⟨a,hae⟩:∃a,(ofN x)[n]=a:=⟨_,rfl⟩
 rw[hae]at ha hv
 simp only[hae]at hxi
 clear hae hdr
 generalize hr:valN ((ofN x).drop (n+1))=r at *
 generalize hl:(ofN x).length=la at *
 have w1:IntKind.i64.wrap ((n:Int)+1)=((n+1:Nat):Int):=succ_i (by omega)
 by_cases h0:a=0
 ·have d1:decide ((a:Int)=0)=true:=by simp;omega
  refine Go1.mk ?_;repeat' ((first|(with_reducible refine Go1.go ?_)|(refine And.intro ?_ ?_;(try simp only[sxO]at *);omega)|fail)<;>(try simp (maxSteps:=1000000) only [cE_ment,hasK_nil,cE_kill,cE_len,u32_one,u32_app1,u32_set,Nat.mul_one,zeSt,u32V,hu.one,hu.len,hu.sl,hl,hxi,d1,w1,↓hold_pre,awayP,runOps,regK,step1,newK,genR,appR,obl,buildR,Value.cells,closeK,keepH,outV,retK,ret1,retC,RetV,Option.getD,runD,stepD,afterK,undef,simprocAttr,sxB,↓sxD,sxE,sxTab]))
  exact ⟨la-(n+1),zeSt M u (n+1),by omega,le_sub ⟨rfl,rfl,trivial⟩ trivial rfl rfl rfl (keepLt0 _),n+1,rfl,by omega,by
   rw[h0,Nat.zero_add]at hv
   rw[wN_succ,hr,hv]
   grind,rfl⟩
 have d1:decide ((a:Int)=0)=false:=by simp;omega
 have w2:IntKind.i64.wrap (32*(n:Int))=((32*n+0:Nat):Int):=by rw[wrap_id (by omega) (by omega)];omega
 refine Go1.mk ?_;repeat' ((first|(with_reducible refine Go1.go ?_)|(refine And.intro ?_ ?_;(try simp only[sxO]at *);omega)|fail)<;>(try simp (maxSteps:=1000000) only [cE_ment,hasK_nil,cE_kill,cE_len,u32_one,u32_app1,u32_set,Nat.mul_one,zeSt,u32V,hu.one,hu.len,hu.sl,hl,hxi,d1,w2,↓hold_pre,awayP,runOps,regK,step1,newK,genR,appR,obl,buildR,Value.cells,closeK,keepH,outV,retK,ret1,retC,RetV,Option.getD,runD,stepD,afterK,undef,simprocAttr,sxB,↓sxD,sxE,sxTab]))
 refine ⟨fun d z=>∃c q,q=d∧0<q∧q<4294967296∧c≤32∧a=2^c*q∧z=zfSt M (32*n+c) q,⟨a,zfSt M (32*n+0) a,le_sub ⟨rfl,rfl,trivial⟩ trivial rfl rfl rfl (keepLt0 _),⟨0,a,rfl,by omega,ha,by omega,by simp,rfl⟩⟩,?_⟩
 rintro d z ⟨c,q,rfl,hq0,hq1,hc,hac,rfl⟩
 have w3:(q:Int).tmod 2=((q % 2:Nat):Int):=by rw[show (2:Int)=((2:Nat):Int) from rfl,←Int.ofNat_tmod]
 have w4:IntKind.u32.wrap ((q:Int).tdiv 2)=((q / 2:Nat):Int):=by
  rw[show (2:Int)=((2:Nat):Int) from rfl,←Int.ofNat_tdiv,wrap32_id (by omega)]
 have w5:IntKind.u32.wrap ((q % 2:Nat):Int)=((q % 2:Nat):Int):=wrap32_id (by omega)
 have w6:IntKind.i64.wrap (((32*n+c:Nat):Int)+1)=((32*n+(c+1):Nat):Int):=by rw[wrap_id (by omega) (by omega)];omega
 by_cases he:q % 2=0
 ·have d2:decide (((q % 2:Nat):Int)=0)=true:=by rw[he];rfl
  refine Go1.mk ?_;repeat' ((first|(with_reducible refine Go1.go ?_)|(refine And.intro ?_ ?_;(try simp only[sxO]at *);omega)|fail)<;>(try simp (maxSteps:=1000000) only [cE_ment,hasK_nil,cE_kill,cE_len,u32_one,u32_app1,u32_set,Nat.mul_one,zfSt,d2,w3,w4,w5,w6,↓hold_pre,awayP,runOps,regK,step1,newK,genR,appR,obl,buildR,Value.cells,closeK,keepH,outV,retK,ret1,retC,RetV,Option.getD,runD,stepD,afterK,undef,simprocAttr,sxB,↓sxD,sxE,sxTab]))
  have hq2:q=2*(q / 2):=by omega
  have hac2:a=2^(c+1)*(q / 2):=by
   rw[Nat.pow_succ,Nat.mul_assoc,←hq2];exact hac
  exact ⟨q / 2,zfSt M (32*n+(c+1)) (q / 2),by omega,le_sub ⟨rfl,rfl,trivial⟩ trivial rfl rfl rfl (keepLt0 _),c+1,q / 2,rfl,by omega,by omega,by
   rcases Nat.lt_or_ge c 32 with h|h
   ·omega
   ·have h1:2^32≤2^c:=Nat.pow_le_pow_right (by decide) h
    have h2:=Nat.mul_le_mul_left (2^c) (show 1≤q by omega)
    omega,hac2,rfl⟩
 ·have d2:decide (((q % 2:Nat):Int)=0)=false:=by rw[show q % 2=1 by omega];rfl
  obtain ⟨hc2,s,hs1,hs2⟩:=zeros_plain hv hac ha (show q % 2=1 by omega)
  refine Go1.mk ?_;repeat' ((first|(with_reducible refine Go1.go ?_)|(refine And.intro ?_ ?_;(try simp only[sxO]at *);omega)|fail)<;>(try simp (maxSteps:=1000000) only [cE_ment,hasK_nil,cE_kill,cE_len,u32_one,u32_app1,u32_set,Nat.mul_one,zfSt,d2,w3,w4,w5,w6,↓hold_pre,awayP,runOps,regK,step1,newK,genR,appR,obl,buildR,Value.cells,closeK,keepH,outV,retK,ret1,retC,RetV,Option.getD,runD,stepD,afterK,undef,simprocAttr,sxB,↓sxD,sxE,sxTab]))
  exact hK _ s (by omega) hs1 hs2
theorem zeros_bor(k o m:Nat)(T:TypeId)(L:List Nat)(x:Nat)(h:OwnN L o m x)(hb:L.length<100000000)(hx0:0<x)(hK:∀e q:Nat,e<32*(ofN x).length→x=2^e*q→q % 2=1→K (.ext (.int .i64 (e:Int))) [(k,T,cE u32V L)] M):CallS Try.prog 91 [.slo k o m 1] [(k,T,cE u32V L)] M [] K:=by
 refine CallS.bor ⟨⟨_,rfl⟩,trivial⟩ fun us M' hM hb'=>?_
 obtain ⟨v1,_,rfl,h1,rfl⟩:=hb'
 have g1:=h1.part (g:=u32V) (L:=L) (T:=T) (by simp[lkH]) h.le
 rw[h.eq]at g1
 exact zeros_ok v1 x g1 (by have:=h.len;have:=h.le;omega) hx0 fun e q h1 h2 h3=>BorK.same (hK e q h1 h2 h3)
theorem order_bor(k1 k2 o1 m1 o2 m2:Nat)(hne:k1≠k2)(T:TypeId)(L1 L2:List Nat)(x y:Nat)(h:OwnN L1 o1 m1 x)(g:OwnN L2 o2 m2 y)(hb1:L1.length<100000000)(hb2:L2.length<100000000)(hK:K (.ext (.int .i64 (cmpN x y))) [(k1,T,cE u32V L1),(k2,T,cE u32V L2)] M) :
  CallS Try.prog 70 [.slo k1 o1 m1 1,.slo k2 o2 m2 1] [(k1,T,cE u32V L1),(k2,T,cE u32V L2)] M [] K:=by
 refine CallS.bor ⟨⟨_,rfl⟩,⟨_,rfl⟩,trivial⟩ fun us M' hM hb'=>?_
 obtain ⟨v1,_,rfl,h1,v2,_,rfl,h2,rfl⟩:=hb'
 have g1:=h1.part (g:=u32V) (L:=L1) (T:=T) (by simp[lkH]) h.le
 have g2:=h2.part (g:=u32V) (L:=L2) (T:=T) (by simp[lkH,hne,hne.symm]) g.le
 rw[h.eq]at g1
 rw[g.eq]at g2
 exact rorder_ok v1 v2 x y g1 g2 (by have:=h.len;have:=h.le;omega) (by have:=g.len;have:=g.le;omega) (BorK.same hK)
end
end Go.Proofs.Ytjapnklocibgaaa.Sx
namespace Go.Proofs.Ytjapnklocibgaaa.Sx
open Go Go.RowKit
set_option linter.unusedVariables false
set_option linter.unusedSimpArgs false
set_option maxRecDepth 100000
set_option maxHeartbeats 8000000
attribute [local congr] fin_congr finG_congr stepG_congr step1_congr runOps_congr brv_congr obl_congr condK_congr LoopK_congr seqK_congr CutK_congr vc_congr DrawK_congr regK_congr CallK_congr AskK_congr newK_congr retC_congr ret1_congr retK_congr outV_congr closeK_congr genR_congr appR_congr finD_congr finGD_congr stepGD_congr stepD_congr CallK0_congr runD_congr okR_congr CallS_congr vcX_congr
attribute [local congr] Stop_congr
section
variable {M:Mem}{K:AV→Hp→Mem→Prop}
def tkSt(M:Mem)(k1 k2 o1 m1 o2 m2 i b:Nat)(L1 L2:List Nat):St:={env:=[(6,.ext (.int .i64 (i:Int))),(5,.ext (.int .u64 (b:Int))),(0,.slo k1 o1 m1 1),(1,.slo k2 o2 m2 1)],hp:=[(k1,55,cE u32V L1),(k2,55,cE u32V L2)],M:=M,kb:=3000,fx:=[k1,k2]}
theorem takeA_ok(o1 m1 o2 m2:Nat)(L1 L2:List Nat)(x y:Nat)(hA:OwnN L1 o1 m1 x)(hB:OwnN L2 o2 m2 y)(hb1:L1.length<100000000)(hb2:L2.length<100000000)(hyx:y≤x)(hK:∀L' m',L'.length=L1.length→OwnN L' o1 m' (x-y)→K (.slo 11 o1 m' 1) [(11,55,cE u32V L'),(13,55,cE u32V L2)] M) :
  CallS Try.prog 93 [.slo 11 o1 m1 1,.slo 13 o2 m2 1] [(11,55,cE u32V L1),(13,55,cE u32V L2)] M [] K:=by
 refine inlS (cs:=[]) (f:=93) Try.mixed Try.func93 rfl (by kernel_rfl) 3000 rfl rfl ?_
 simp only[Try.f93]
 refine Go1.mk ?_;repeat' ((first|(with_reducible refine Go1.go ?_)|(refine And.intro ?_ ?_;(try simp only[sxO]at *);omega)|fail)<;>(try simp (maxSteps:=1000000) only [cE_ment,hasK_nil,cE_kill,cE_len,u32_one,u32_app1,u32_set,Nat.mul_one,↓hold_pre,awayP,runOps,regK,step1,newK,genR,appR,obl,buildR,Value.cells,closeK,keepH,outV,retK,ret1,retC,RetV,Option.getD,runD,stepD,afterK,undef,simprocAttr,sxB,↓sxD,sxE,sxTab]))
 have hAle:=hA.le
 have hBle:=hB.le
 have hAlen:=hA.len
 have hBlen:=hB.len
 have hml:m2≤m1:=by rw[hAlen,hBlen];exact len_mono hyx
 have hL:L1=L1.take o1++((L1.drop o1).take m1++L1.drop (o1+m1)):=by
  rw[←List.drop_drop,List.take_append_drop,List.take_append_drop]
 have hPl:(L1.take o1).length=o1:=by rw[List.length_take];omega
 have hoP:=okN_take hA.ok o1
 have hoS:=okN_drop hA.ok (o1+m1)
 rw[hA.eq]at hL
 generalize L1.take o1=P at *
 generalize L1.drop (o1+m1)=S at *
 have hLl:L1.length=o1+(m1+S.length):=by rw[hL,List.length_append,List.length_append,hPl,←hAlen]
 subst hL
 clear hA
 refine ⟨fun d z=>∃i b C,d=m1-i∧i≤m1∧C.length=m1∧okN C∧C.drop i=(ofN x).drop i∧b≤1∧valN (C.take i)+valN ((ofN y).take i)=valN ((ofN x).take i)+wN i*b∧z=tkSt M 11 13 o1 m1 o2 m2 i b (P++(C++S)) L2,
  ⟨m1,tkSt M 11 13 o1 m1 o2 m2 0 0 (P++(ofN x++S)) L2,le_sub ⟨rfl,rfl,rfl,rfl,trivial⟩ ⟨rfl,rfl,trivial⟩ rfl rfl rfl (by simp[keepLt,tkSt,lkH]),⟨0,0,ofN x,rfl,by omega,hAlen.symm,okN_ofN x,rfl,by omega,by simp[valN],rfl⟩⟩,?_⟩
 rintro d z ⟨i,c,C,rfl,hi,hC,hoC,hdr,hc,hval,rfl⟩
 by_cases hlt:i<m1
 case neg=>
  obtain rfl:i=m1:=by omega
  have d1:decide ((i:Int)<(i:Int))=false:=by simp
  rw[take_all (l:=ofN y) (by omega),take_all (l:=ofN x) (by omega),take_all (l:=C) (by omega),valN_ofN,valN_ofN,←hC]at hval
  have hv2:=sub_end hoC hval hyx
  have hok:okN (P++(C++S)):=okN_app.2 ⟨hoP,okN_app.2 ⟨hoC,hoS⟩⟩
  have hol:o1+i≤(P++(C++S)).length:=by simp[hC,hPl]
  have hfl:(P++(C++S)).length=(P++(ofN x++S)).length:=by simp[hC,←hAlen]
  have hpart:((P++(C++S)).drop o1).take i=C:=by
   rw[←hPl,List.drop_left,←hC,List.take_left]
  refine Go1.mk ?_;repeat' ((first|(with_reducible refine Go1.go ?_)|((with_reducible refine isCall (f:=103) ?_);refine callA ?_)|((with_reducible refine isCallS (f:=103) ?_);refine (cut_ok 11 o1 i (P++(C++S)) hol (by omega) hok (fun m' c1 c2 c3=>Stop.mk ?_)))|(refine And.intro ?_ ?_;(try simp only[sxO]at *);omega)|fail)<;>(try simp (maxSteps:=1000000) only [cE_ment,hasK_nil,cE_kill,cE_len,u32_one,u32_app1,u32_set,Nat.mul_one,tkSt,d1,↓hold_pre,awayP,runOps,regK,step1,newK,genR,appR,obl,buildR,Value.cells,closeK,keepH,outV,retK,ret1,retC,RetV,Option.getD,runD,stepD,afterK,undef,simprocAttr,sxB,↓sxD,sxE,sxTab]))
  rw[hpart,hv2]at c1 c2
  refine Stop.go ?_
  refine Go1.mk ?_;repeat' ((first|(with_reducible refine Go1.go ?_)|(refine And.intro ?_ ?_;(try simp only[sxO]at *);omega)|fail)<;>(try simp (maxSteps:=1000000) only [cE_ment,hasK_nil,cE_kill,cE_len,u32_one,u32_app1,u32_set,Nat.mul_one,↓hold_pre,awayP,runOps,regK,step1,newK,genR,appR,obl,buildR,Value.cells,closeK,keepH,outV,retK,ret1,retC,RetV,Option.getD,runD,stepD,afterK,undef,simprocAttr,sxB,↓sxD,sxE,sxTab]))
  refine hK _ m' hfl ⟨by omega,hok,?_⟩
  have hp2:=congrArg (List.take m') hpart
  rw[List.take_take,Nat.min_eq_left c3]at hp2
  rw[←c1,hp2]
 have hiC:i<C.length:=by omega
 have hix:i<(ofN x).length:=by omega
 have hat:=u32_mid (S:=S) hPl hiC
 have hx0:=okN_at hoC hiC
 have hCi:C[i]=(ofN x)[i]:=by
  have e1:(C.drop i)[0]? = ((ofN x).drop i)[0]?:=by rw[hdr]
  rw[List.getElem?_drop,List.getElem?_drop,Nat.add_zero,List.getElem?_eq_getElem hiC,List.getElem?_eq_getElem hix]at e1
  exact Option.some.inj e1
 have hgx:(ofN x).getD i 0=C[i]:=by simp[List.getD,hix,hCi]
 clear hCi
 have hti:(C.take i).length=i:=by rw[List.length_take];omega
 have d1:decide ((i:Int)<(m1:Int))=true:=by simp;omega
 have d2:(0:Int)≤(i:Int):=by omega
 have d3:(i:Int)<(m1:Int):=by omega
 have d4:(o1+i<(P++(C++S)).length)=True:=by simp[hC,hPl];omega
 have w9:IntKind.i64.wrap ((i:Int)+1)=((i+1:Nat):Int):=succ_i (by omega)
 have fin:∀(r c':Nat),r<4294967296→c'≤1→r+(ofN y).getD i 0+c=C[i]+4294967296*c'→∃D,D.length=m1∧okN D∧D.drop (i+1)=(ofN x).drop (i+1)∧valN (D.take (i+1))+valN ((ofN y).take (i+1))=valN ((ofN x).take (i+1))+wN (i+1)*c'∧D=C.set i r:=fun r c' hr hc' he=>by
  refine ⟨C.set i r,by rw[List.length_set];exact hC,okN_set hoC hr,?_,?_,rfl⟩
  ·rw[List.drop_set_of_lt (by omega)]
   have:=congrArg (List.drop 1) hdr
   rw[List.drop_drop,List.drop_drop]at this
   exact this
  ·have hv3:valN (C.take i)+valN ((ofN y).take i)=valN ((ofN x).take i)+wN (C.take i).length*c:=by rw[hti];exact hval
   have st:=sub_step hv3 he
   rw[hti]at st
   rw[take_set_self hiC,take_val,take_val,hgx];exact st
 generalize C[i]=a at *
 have w3:IntKind.u64.wrap (a:Int)=(a:Int):=wrap64_id (by omega)
 have w4:IntKind.u64.wrap ((a:Int)-(c:Int))=((subW a c:Nat):Int):=wrap64_sub (by omega)
 by_cases hy:i<m2
 ·have hiy:i<(ofN y).length:=by omega
  have hyt:=u32_part hB.le hy (hil:=by rw[List.length_take,List.length_drop];omega)
  have hge:((L2.drop o2).take m2)[i]'(by rw[List.length_take,List.length_drop];omega)=(ofN y)[i]:=by
   simp only[hB.eq]
  rw[hge]at hyt
  have hy0:=ofN_ok_at hiy
  have hgy:(ofN y).getD i 0=(ofN y)[i]:=by simp[List.getD,hiy]
  rw[hgy]at fin
  generalize (ofN y)[i]=b at *
  have d5:decide ((i:Int)<(m2:Int))=true:=by simp;omega
  have d6:(i:Int)<(m2:Int):=by omega
  have w5:IntKind.u64.wrap (b:Int)=(b:Int):=wrap64_id (by omega)
  have w6:IntKind.u64.wrap (((subW a c:Nat):Int)-(b:Int))=((subW (subW a c) b:Nat):Int):=wrap64_sub (by omega)
  have w7:=wrap32 (subW (subW a c) b)
  have w8:=shr63 (subW (subW a c) b)
  have hms:=mid_set P C S o1 i (subW (subW a c) b % 4294967296) hPl hiC
  obtain ⟨s1,s2⟩:=subW_3 hx0 hy0 hc
  obtain ⟨D,f1,f2,f3,f4,f5⟩:=fin _ _ (Nat.mod_lt _ (by decide)) s2 s1
  refine Go1.mk ?_;repeat' ((first|(with_reducible refine Go1.go ?_)|(refine And.intro ?_ ?_;(try simp only[sxO]at *);omega)|fail)<;>(try simp (maxSteps:=1000000) only [cE_ment,hasK_nil,cE_kill,cE_len,u32_one,u32_app1,u32_set,Nat.mul_one,tkSt,u32V,hat,hyt,d1,d2,d3,d4,d5,d6,w3,w4,w5,w6,w7,w8,w9,hms,↓hold_pre,awayP,runOps,regK,step1,newK,genR,appR,obl,buildR,Value.cells,closeK,keepH,outV,retK,ret1,retC,RetV,Option.getD,runD,stepD,afterK,undef,simprocAttr,sxB,↓sxD,sxE,sxTab]))
  rw[←f5]
  exact ⟨m1-(i+1),tkSt M 11 13 o1 m1 o2 m2 (i+1) _ (P++(D++S)) L2,by omega,le_sub ⟨rfl,rfl,rfl,rfl,trivial⟩ ⟨rfl,rfl,trivial⟩ rfl rfl rfl (by simp[keepLt,tkSt,lkH]),i+1,_,D,rfl,by omega,f1,f2,f3,s2,f4,rfl⟩
 ·have d5:decide ((i:Int)<(m2:Int))=false:=by simp;omega
  have hgy:(ofN y).getD i 0=0:=by simp[List.getD,List.getElem?_eq_none (show (ofN y).length≤i by omega)]
  rw[hgy]at fin
  have w7:=wrap32 (subW a c)
  have w8:=shr63 (subW a c)
  have hms:=mid_set P C S o1 i (subW a c % 4294967296) hPl hiC
  obtain ⟨s1,s2⟩:=subW_3 hx0 (show 0<4294967296 by decide) hc
  have s0:subW (subW a c) 0=subW a c:=by unfold subW;omega
  rw[s0]at s1 s2
  obtain ⟨D,f1,f2,f3,f4,f5⟩:=fin _ _ (Nat.mod_lt _ (by decide)) s2 s1
  refine Go1.mk ?_;repeat' ((first|(with_reducible refine Go1.go ?_)|(refine And.intro ?_ ?_;(try simp only[sxO]at *);omega)|fail)<;>(try simp (maxSteps:=1000000) only [cE_ment,hasK_nil,cE_kill,cE_len,u32_one,u32_app1,u32_set,Nat.mul_one,tkSt,u32V,hat,d1,d2,d3,d4,d5,w3,w4,w7,w8,w9,hms,↓hold_pre,awayP,runOps,regK,step1,newK,genR,appR,obl,buildR,Value.cells,closeK,keepH,outV,retK,ret1,retC,RetV,Option.getD,runD,stepD,afterK,undef,simprocAttr,sxB,↓sxD,sxE,sxTab]))
  rw[←f5]
  exact ⟨m1-(i+1),tkSt M 11 13 o1 m1 o2 m2 (i+1) _ (P++(D++S)) L2,by omega,le_sub ⟨rfl,rfl,rfl,rfl,trivial⟩ ⟨rfl,rfl,trivial⟩ rfl rfl rfl (by simp[keepLt,tkSt,lkH]),i+1,_,D,rfl,by omega,f1,f2,f3,s2,f4,rfl⟩
theorem takeB_ok(o1 m1 o2 m2:Nat)(L1 L2:List Nat)(x y:Nat)(hA:OwnN L1 o1 m1 x)(hB:OwnN L2 o2 m2 y)(hb1:L1.length<100000000)(hb2:L2.length<100000000)(hyx:y≤x)(hK:∀L' m',L'.length=L1.length→OwnN L' o1 m' (x-y)→K (.slo 13 o1 m' 1) [(13,55,cE u32V L'),(11,55,cE u32V L2)] M) :
  CallS Try.prog 93 [.slo 13 o1 m1 1,.slo 11 o2 m2 1] [(13,55,cE u32V L1),(11,55,cE u32V L2)] M [] K:=by
 refine inlS (cs:=[]) (f:=93) Try.mixed Try.func93 rfl (by kernel_rfl) 3000 rfl rfl ?_
 simp only[Try.f93]
 refine Go1.mk ?_;repeat' ((first|(with_reducible refine Go1.go ?_)|(refine And.intro ?_ ?_;(try simp only[sxO]at *);omega)|fail)<;>(try simp (maxSteps:=1000000) only [cE_ment,hasK_nil,cE_kill,cE_len,u32_one,u32_app1,u32_set,Nat.mul_one,↓hold_pre,awayP,runOps,regK,step1,newK,genR,appR,obl,buildR,Value.cells,closeK,keepH,outV,retK,ret1,retC,RetV,Option.getD,runD,stepD,afterK,undef,simprocAttr,sxB,↓sxD,sxE,sxTab]))
 have hAle:=hA.le
 have hBle:=hB.le
 have hAlen:=hA.len
 have hBlen:=hB.len
 have hml:m2≤m1:=by rw[hAlen,hBlen];exact len_mono hyx
 have hL:L1=L1.take o1++((L1.drop o1).take m1++L1.drop (o1+m1)):=by
  rw[←List.drop_drop,List.take_append_drop,List.take_append_drop]
 have hPl:(L1.take o1).length=o1:=by rw[List.length_take];omega
 have hoP:=okN_take hA.ok o1
 have hoS:=okN_drop hA.ok (o1+m1)
 rw[hA.eq]at hL
 generalize L1.take o1=P at *
 generalize L1.drop (o1+m1)=S at *
 have hLl:L1.length=o1+(m1+S.length):=by rw[hL,List.length_append,List.length_append,hPl,←hAlen]
 subst hL
 clear hA
 refine ⟨fun d z=>∃i b C,d=m1-i∧i≤m1∧C.length=m1∧okN C∧C.drop i=(ofN x).drop i∧b≤1∧valN (C.take i)+valN ((ofN y).take i)=valN ((ofN x).take i)+wN i*b∧z=tkSt M 13 11 o1 m1 o2 m2 i b (P++(C++S)) L2,
  ⟨m1,tkSt M 13 11 o1 m1 o2 m2 0 0 (P++(ofN x++S)) L2,le_sub ⟨rfl,rfl,rfl,rfl,trivial⟩ ⟨rfl,rfl,trivial⟩ rfl rfl rfl (by simp[keepLt,tkSt,lkH]),⟨0,0,ofN x,rfl,by omega,hAlen.symm,okN_ofN x,rfl,by omega,by simp[valN],rfl⟩⟩,?_⟩
 rintro d z ⟨i,c,C,rfl,hi,hC,hoC,hdr,hc,hval,rfl⟩
 by_cases hlt:i<m1
 case neg=>
  obtain rfl:i=m1:=by omega
  have d1:decide ((i:Int)<(i:Int))=false:=by simp
  rw[take_all (l:=ofN y) (by omega),take_all (l:=ofN x) (by omega),take_all (l:=C) (by omega),valN_ofN,valN_ofN,←hC]at hval
  have hv2:=sub_end hoC hval hyx
  have hok:okN (P++(C++S)):=okN_app.2 ⟨hoP,okN_app.2 ⟨hoC,hoS⟩⟩
  have hol:o1+i≤(P++(C++S)).length:=by simp[hC,hPl]
  have hfl:(P++(C++S)).length=(P++(ofN x++S)).length:=by simp[hC,←hAlen]
  have hpart:((P++(C++S)).drop o1).take i=C:=by
   rw[←hPl,List.drop_left,←hC,List.take_left]
  refine Go1.mk ?_;repeat' ((first|(with_reducible refine Go1.go ?_)|((with_reducible refine isCall (f:=103) ?_);refine callA ?_)|((with_reducible refine isCallS (f:=103) ?_);refine (cut_ok 13 o1 i (P++(C++S)) hol (by omega) hok (fun m' c1 c2 c3=>Stop.mk ?_)))|(refine And.intro ?_ ?_;(try simp only[sxO]at *);omega)|fail)<;>(try simp (maxSteps:=1000000) only [cE_ment,hasK_nil,cE_kill,cE_len,u32_one,u32_app1,u32_set,Nat.mul_one,tkSt,d1,↓hold_pre,awayP,runOps,regK,step1,newK,genR,appR,obl,buildR,Value.cells,closeK,keepH,outV,retK,ret1,retC,RetV,Option.getD,runD,stepD,afterK,undef,simprocAttr,sxB,↓sxD,sxE,sxTab]))
  rw[hpart,hv2]at c1 c2
  refine Stop.go ?_
  refine Go1.mk ?_;repeat' ((first|(with_reducible refine Go1.go ?_)|(refine And.intro ?_ ?_;(try simp only[sxO]at *);omega)|fail)<;>(try simp (maxSteps:=1000000) only [cE_ment,hasK_nil,cE_kill,cE_len,u32_one,u32_app1,u32_set,Nat.mul_one,↓hold_pre,awayP,runOps,regK,step1,newK,genR,appR,obl,buildR,Value.cells,closeK,keepH,outV,retK,ret1,retC,RetV,Option.getD,runD,stepD,afterK,undef,simprocAttr,sxB,↓sxD,sxE,sxTab]))
  refine hK _ m' hfl ⟨by omega,hok,?_⟩
  have hp2:=congrArg (List.take m') hpart
  rw[List.take_take,Nat.min_eq_left c3]at hp2
  rw[←c1,hp2]
 have hiC:i<C.length:=by omega
 have hix:i<(ofN x).length:=by omega
 have hat:=u32_mid (S:=S) hPl hiC
 have hx0:=okN_at hoC hiC
 have hCi:C[i]=(ofN x)[i]:=by
  have e1:(C.drop i)[0]? = ((ofN x).drop i)[0]?:=by rw[hdr]
  rw[List.getElem?_drop,List.getElem?_drop,Nat.add_zero,List.getElem?_eq_getElem hiC,List.getElem?_eq_getElem hix]at e1
  exact Option.some.inj e1
 have hgx:(ofN x).getD i 0=C[i]:=by simp[List.getD,hix,hCi]
 clear hCi
 have hti:(C.take i).length=i:=by rw[List.length_take];omega
 have d1:decide ((i:Int)<(m1:Int))=true:=by simp;omega
 have d2:(0:Int)≤(i:Int):=by omega
 have d3:(i:Int)<(m1:Int):=by omega
 have d4:(o1+i<(P++(C++S)).length)=True:=by simp[hC,hPl];omega
 have w9:IntKind.i64.wrap ((i:Int)+1)=((i+1:Nat):Int):=succ_i (by omega)
 have fin:∀(r c':Nat),r<4294967296→c'≤1→r+(ofN y).getD i 0+c=C[i]+4294967296*c'→∃D,D.length=m1∧okN D∧D.drop (i+1)=(ofN x).drop (i+1)∧valN (D.take (i+1))+valN ((ofN y).take (i+1))=valN ((ofN x).take (i+1))+wN (i+1)*c'∧D=C.set i r:=fun r c' hr hc' he=>by
  refine ⟨C.set i r,by rw[List.length_set];exact hC,okN_set hoC hr,?_,?_,rfl⟩
  ·rw[List.drop_set_of_lt (by omega)]
   have:=congrArg (List.drop 1) hdr
   rw[List.drop_drop,List.drop_drop]at this
   exact this
  ·have hv3:valN (C.take i)+valN ((ofN y).take i)=valN ((ofN x).take i)+wN (C.take i).length*c:=by rw[hti];exact hval
   have st:=sub_step hv3 he
   rw[hti]at st
   rw[take_set_self hiC,take_val,take_val,hgx];exact st
 generalize C[i]=a at *
 have w3:IntKind.u64.wrap (a:Int)=(a:Int):=wrap64_id (by omega)
 have w4:IntKind.u64.wrap ((a:Int)-(c:Int))=((subW a c:Nat):Int):=wrap64_sub (by omega)
 by_cases hy:i<m2
 ·have hiy:i<(ofN y).length:=by omega
  have hyt:=u32_part hB.le hy (hil:=by rw[List.length_take,List.length_drop];omega)
  have hge:((L2.drop o2).take m2)[i]'(by rw[List.length_take,List.length_drop];omega)=(ofN y)[i]:=by
   simp only[hB.eq]
  rw[hge]at hyt
  have hy0:=ofN_ok_at hiy
  have hgy:(ofN y).getD i 0=(ofN y)[i]:=by simp[List.getD,hiy]
  rw[hgy]at fin
  generalize (ofN y)[i]=b at *
  have d5:decide ((i:Int)<(m2:Int))=true:=by simp;omega
  have d6:(i:Int)<(m2:Int):=by omega
  have w5:IntKind.u64.wrap (b:Int)=(b:Int):=wrap64_id (by omega)
  have w6:IntKind.u64.wrap (((subW a c:Nat):Int)-(b:Int))=((subW (subW a c) b:Nat):Int):=wrap64_sub (by omega)
  have w7:=wrap32 (subW (subW a c) b)
  have w8:=shr63 (subW (subW a c) b)
  have hms:=mid_set P C S o1 i (subW (subW a c) b % 4294967296) hPl hiC
  obtain ⟨s1,s2⟩:=subW_3 hx0 hy0 hc
  obtain ⟨D,f1,f2,f3,f4,f5⟩:=fin _ _ (Nat.mod_lt _ (by decide)) s2 s1
  refine Go1.mk ?_;repeat' ((first|(with_reducible refine Go1.go ?_)|(refine And.intro ?_ ?_;(try simp only[sxO]at *);omega)|fail)<;>(try simp (maxSteps:=1000000) only [cE_ment,hasK_nil,cE_kill,cE_len,u32_one,u32_app1,u32_set,Nat.mul_one,tkSt,u32V,hat,hyt,d1,d2,d3,d4,d5,d6,w3,w4,w5,w6,w7,w8,w9,hms,↓hold_pre,awayP,runOps,regK,step1,newK,genR,appR,obl,buildR,Value.cells,closeK,keepH,outV,retK,ret1,retC,RetV,Option.getD,runD,stepD,afterK,undef,simprocAttr,sxB,↓sxD,sxE,sxTab]))
  rw[←f5]
  exact ⟨m1-(i+1),tkSt M 13 11 o1 m1 o2 m2 (i+1) _ (P++(D++S)) L2,by omega,le_sub ⟨rfl,rfl,rfl,rfl,trivial⟩ ⟨rfl,rfl,trivial⟩ rfl rfl rfl (by simp[keepLt,tkSt,lkH]),i+1,_,D,rfl,by omega,f1,f2,f3,s2,f4,rfl⟩
 ·have d5:decide ((i:Int)<(m2:Int))=false:=by simp;omega
  have hgy:(ofN y).getD i 0=0:=by simp[List.getD,List.getElem?_eq_none (show (ofN y).length≤i by omega)]
  rw[hgy]at fin
  have w7:=wrap32 (subW a c)
  have w8:=shr63 (subW a c)
  have hms:=mid_set P C S o1 i (subW a c % 4294967296) hPl hiC
  obtain ⟨s1,s2⟩:=subW_3 hx0 (show 0<4294967296 by decide) hc
  have s0:subW (subW a c) 0=subW a c:=by unfold subW;omega
  rw[s0]at s1 s2
  obtain ⟨D,f1,f2,f3,f4,f5⟩:=fin _ _ (Nat.mod_lt _ (by decide)) s2 s1
  refine Go1.mk ?_;repeat' ((first|(with_reducible refine Go1.go ?_)|(refine And.intro ?_ ?_;(try simp only[sxO]at *);omega)|fail)<;>(try simp (maxSteps:=1000000) only [cE_ment,hasK_nil,cE_kill,cE_len,u32_one,u32_app1,u32_set,Nat.mul_one,tkSt,u32V,hat,d1,d2,d3,d4,d5,w3,w4,w7,w8,w9,hms,↓hold_pre,awayP,runOps,regK,step1,newK,genR,appR,obl,buildR,Value.cells,closeK,keepH,outV,retK,ret1,retC,RetV,Option.getD,runD,stepD,afterK,undef,simprocAttr,sxB,↓sxD,sxE,sxTab]))
  rw[←f5]
  exact ⟨m1-(i+1),tkSt M 13 11 o1 m1 o2 m2 (i+1) _ (P++(D++S)) L2,by omega,le_sub ⟨rfl,rfl,rfl,rfl,trivial⟩ ⟨rfl,rfl,trivial⟩ rfl rfl rfl (by simp[keepLt,tkSt,lkH]),i+1,_,D,rfl,by omega,f1,f2,f3,s2,f4,rfl⟩
end
end Go.Proofs.Ytjapnklocibgaaa.Sx
namespace Go.Proofs.Ytjapnklocibgaaa.Sx
open Go Go.RowKit
set_option linter.unusedVariables false
set_option linter.unusedSimpArgs false
set_option maxRecDepth 100000
set_option maxHeartbeats 8000000
attribute [local congr] fin_congr finG_congr stepG_congr step1_congr runOps_congr brv_congr obl_congr condK_congr LoopK_congr seqK_congr CutK_congr vc_congr DrawK_congr regK_congr CallK_congr AskK_congr newK_congr retC_congr ret1_congr retK_congr outV_congr closeK_congr genR_congr appR_congr finD_congr finGD_congr stepGD_congr stepD_congr CallK0_congr runD_congr okR_congr CallS_congr vcX_congr
attribute [local congr] Stop_congr
theorem odd_two{q:Nat}(h:q % 2=1)(n:Nat):Nat.Coprime (2^n) q:=by
 have h1:Nat.Coprime 2 q:=by
  show Nat.gcd 2 q=1
  rw[Nat.gcd_rec,h];rfl
 exact Nat.Coprime.pow_left n h1
theorem gcd_two{x y e1 e2 q1 q2:Nat}(hx:x=2^e1*q1)(hy:y=2^e2*q2)(h1:q1 % 2=1)(h2:q2 % 2=1):Nat.gcd x y=Nat.gcd q1 q2*2^(min e1 e2):=by
 subst hx hy
 rcases Nat.le_total e1 e2 with h|h
 ·obtain ⟨d,rfl⟩:∃d,e2=e1+d:=⟨e2-e1,by omega⟩
  rw[Nat.min_eq_left h,Nat.pow_add,Nat.mul_assoc,Nat.gcd_mul_left,Nat.mul_comm (Nat.gcd q1 q2),Nat.Coprime.gcd_mul_left_cancel_right _ (odd_two h1 d)]
 ·obtain ⟨d,rfl⟩:∃d,e1=e2+d:=⟨e1-e2,by omega⟩
  rw[Nat.min_eq_right h,Nat.pow_add,Nat.mul_assoc,Nat.gcd_mul_left,Nat.mul_comm (Nat.gcd q1 q2),Nat.Coprime.gcd_mul_left_cancel _ (odd_two h2 d)]
theorem gcd_step{a b e q:Nat}(hb:b % 2=1)(h:b≤a)(he:a-b=2^e*q):Nat.gcd q b=Nat.gcd a b:=by
 rw[←Nat.gcd_sub_self_left h,he,Nat.Coprime.gcd_mul_left_cancel _ (odd_two hb e)]
theorem valN_rep0(k:Nat):valN (List.replicate k 0)=0:=by
 induction k with
 | zero=>rfl
 | succ k ih=>simp[List.replicate_succ,valN,ih]
theorem two_plain(k:Nat){s:Nat}(hs:s<32):(List.replicate (k+1) 0).set k (2^s)=ofN (2^(32*k+s)):=by
 have h1:(List.replicate (k+1) 0).set k (2^s)=List.replicate k 0++[2^s]:=by
  rw[List.replicate_succ',List.set_append_right _ _ (by simp)];simp
 have h2:2^s<4294967296:=Nat.pow_lt_pow_right (a:=2) (m:=s) (n:=32) (by decide) hs
 have h3:okN (List.replicate k 0++[2^s]):=okN_app.2 ⟨okN_rep k,fun z hz=>by simp at hz;omega⟩
 have h4:List.replicate k 0++[2^s]=ofN (valN (List.replicate k 0++[2^s])):=canon h3 fun hl h0=>by
  simp at h0
 have h5:valN (List.replicate k 0++[2^s])=2^(32*k+s):=by
  rw[valN_snoc,valN_rep0,List.length_replicate,Nat.zero_add,wN_two,←Nat.pow_add]
 rw[h1,h4,h5]
theorem swap2{k1 k2:Nat}(hne:k1≠k2)(a b:TypeId×List AV)(j:Nat):lkH [(k1,a),(k2,b)] j=lkH [(k2,b),(k1,a)] j:=by
 simp only[lkH]
 by_cases h1:k1=j
 ·have h2:¬k2=j:=fun e=>hne (h1.trans e.symm)
  simp[h1,h2]
 ·by_cases h2:k2=j<;>simp[h1,h2]
section
variable {M:Mem}{K:AV→Hp→Mem→Prop}
theorem times_bor2(k1 k2 o1 m1 o2 m2:Nat)(hne:k1≠k2)(T:TypeId)(L1 L2:List Nat)(x y:Nat)(h:OwnN L1 o1 m1 x)(g:OwnN L2 o2 m2 y)(hb1:L1.length<100000000)(hb2:L2.length<100000000)(hK:∀w M',Mem.le M M'→IsL M' u32V w (ofN (x*y))→FreshS M w→K (.ext w) [(k1,T,cE u32V L1),(k2,T,cE u32V L2)] M') :
  CallS Try.prog 76 [.slo k1 o1 m1 1,.slo k2 o2 m2 1] [(k1,T,cE u32V L1),(k2,T,cE u32V L2)] M [] K:=by
 refine CallS.bor ⟨⟨_,rfl⟩,⟨_,rfl⟩,trivial⟩ fun us M' hM hb'=>?_
 obtain ⟨v1,_,rfl,h1,v2,_,rfl,h2,rfl⟩:=hb'
 have g1:=h1.part (g:=u32V) (L:=L1) (T:=T) (by simp[lkH]) h.le
 have g2:=h2.part (g:=u32V) (L:=L2) (T:=T) (by simp[lkH,hne,hne.symm]) g.le
 rw[h.eq]at g1
 rw[g.eq]at g2
 refine times_ok v1 v2 x y g1 g2 (by have:=h.len;have:=h.le;omega) (by have:=g.len;have:=g.le;omega) fun w M2 h2 h3 h4=>?_
 exact ⟨fun j hj=>rfl,fun M3 h5 h6 _=>hK w M3 h5 (h3.move h4 h6) (h4.le hM)⟩
def cmSt(M:Mem)(ka kb oa ma ob mb e1 e2:Nat)(LA LB:List Nat):St:={env:=[(5,.slo ka oa ma 1),(6,.slo kb ob mb 1),(7,.ext (.int .i64 (e1:Int))),(8,.ext (.int .i64 (e2:Int)))],hp:=[(ka,55,cE u32V LA),(kb,55,cE u32V LB)],M:=M,kb:=0,fx:=[]}
theorem common_ok(u v:Value)(x y:Nat)(hu:IsL M u32V u (ofN x))(hv:IsL M u32V v (ofN y))(hx:(ofN x).length<10000000)(hy:(ofN y).length<10000000)(hK:NatK M K (Nat.gcd x y)):CallS Try.prog 71 [.ext u,.ext v] [] M [] K:=by
 refine CallS.frzF ?_
 refine inlS (cs:=[]) Try.mixed Try.func71 rfl (by kernel_rfl) 0 rfl rfl ?_
 simp only[Try.f71]
 have hrow:=hu.row
 have hrow2:=hv.row
 have hmp:List.map AV.ext (List.map u32V (ofN x))=cE u32V (ofN x):=rfl
 have hmp2:List.map AV.ext (List.map u32V (ofN y))=cE u32V (ofN y):=rfl
 by_cases hx0:x=0
 ·subst hx0
  have d1:decide (((ofN 0).length:Int)=0)=true:=by rw[ofN_zero];rfl
  rw[Nat.gcd_zero_left]at hK
  refine Go1.mk ?_;repeat' ((first|(with_reducible refine Go1.go ?_)|(refine And.intro ?_ ?_;(try simp only[sxO]at *);omega)|fail)<;>(try simp (maxSteps:=1000000) only [cE_ment,hasK_nil,cE_kill,cE_len,u32_one,u32_app1,u32_set,Nat.mul_one,hu.one,hv.one,hu.len,hu.sl,hv.len,hv.sl,hrow,hrow2,hmp,hmp2,d1,↓hold_pre,awayP,runOps,regK,step1,newK,genR,appR,obl,buildR,Value.cells,closeK,keepH,outV,retK,ret1,retC,RetV,Option.getD,runD,stepD,afterK,undef,simprocAttr,sxB,↓sxD,sxE,sxTab]))
  exact hK.frz rfl
 have hlx:0<(ofN x).length:=by
  rcases Nat.eq_zero_or_pos (ofN x).length with h|h
  ·have:=ofN_nil.1 (List.length_eq_zero_iff.1 h);omega
  ·exact h
 have d1:decide (((ofN x).length:Int)=0)=false:=by rw[decide_eq_false_iff_not];omega
 by_cases hy0:y=0
 ·subst hy0
  have d2:decide (((ofN 0).length:Int)=0)=true:=by rw[ofN_zero];rfl
  rw[Nat.gcd_zero_right]at hK
  refine Go1.mk ?_;repeat' ((first|(with_reducible refine Go1.go ?_)|(refine And.intro ?_ ?_;(try simp only[sxO]at *);omega)|fail)<;>(try simp (maxSteps:=1000000) only [cE_ment,hasK_nil,cE_kill,cE_len,u32_one,u32_app1,u32_set,Nat.mul_one,hu.one,hv.one,hu.len,hu.sl,hv.len,hv.sl,hrow,hrow2,hmp,hmp2,d1,d2,↓hold_pre,awayP,runOps,regK,step1,newK,genR,appR,obl,buildR,Value.cells,closeK,keepH,outV,retK,ret1,retC,RetV,Option.getD,runD,stepD,afterK,undef,simprocAttr,sxB,↓sxD,sxE,sxTab]))
  exact hK.frz rfl
 have hly:0<(ofN y).length:=by
  rcases Nat.eq_zero_or_pos (ofN y).length with h|h
  ·have:=ofN_nil.1 (List.length_eq_zero_iff.1 h);omega
  ·exact h
 have d2:decide (((ofN y).length:Int)=0)=false:=by rw[decide_eq_false_iff_not];omega
 have hA0:OwnN (ofN x) 0 (ofN x).length x:=⟨by omega,okN_ofN x,by rw[List.drop_zero,List.take_length]⟩
 have hB0:OwnN (ofN y) 0 (ofN y).length y:=⟨by omega,okN_ofN y,by rw[List.drop_zero,List.take_length]⟩
 refine Go1.mk ?_;repeat' ((first|(with_reducible refine Go1.go ?_)|((with_reducible refine isCall (f:=91) ?_);refine callA ?_)|((with_reducible refine isCallS (f:=91) ?_);refine (zeros_bor 11 0 _ _ (ofN x) x hA0 (by omega) (by omega) (fun e1 q1 r1 r2 r3=>Stop.mk ?_)))|(refine And.intro ?_ ?_;(try simp only[sxO]at *);omega)|fail)<;>(try simp (maxSteps:=1000000) only [cE_ment,hasK_nil,cE_kill,cE_len,u32_one,u32_app1,u32_set,Nat.mul_one,hu.one,hv.one,hu.len,hu.sl,hv.len,hv.sl,hrow,hrow2,hmp,hmp2,d1,d2,↓hold_pre,awayP,runOps,regK,step1,newK,genR,appR,obl,buildR,Value.cells,closeK,keepH,outV,retK,ret1,retC,RetV,Option.getD,runD,stepD,afterK,undef,simprocAttr,sxB,↓sxD,sxE,sxTab]))
 refine Stop.go ?_
 refine Go1.mk ?_;repeat' ((first|(with_reducible refine Go1.go ?_)|((with_reducible refine isCall (f:=91) ?_);refine callA ?_)|((with_reducible refine isCallS (f:=91) ?_);refine (zeros_bor 13 0 _ _ (ofN y) y hB0 (by omega) (by omega) (fun e2 q2 s1 s2 s3=>Stop.mk ?_)))|(refine And.intro ?_ ?_;(try simp only[sxO]at *);omega)|fail)<;>(try simp (maxSteps:=1000000) only [cE_ment,hasK_nil,cE_kill,cE_len,u32_one,u32_app1,u32_set,Nat.mul_one,hu.one,hv.one,hu.len,hu.sl,hv.len,hv.sl,hrow,hrow2,hmp,hmp2,d1,d2,↓hold_pre,awayP,runOps,regK,step1,newK,genR,appR,obl,buildR,Value.cells,closeK,keepH,outV,retK,ret1,retC,RetV,Option.getD,runD,stepD,afterK,undef,simprocAttr,sxB,↓sxD,sxE,sxTab]))
 refine Stop.go ?_
 have hd1:x / 2^e1=q1:=by rw[r2,Nat.mul_div_cancel_left _ (Nat.two_pow_pos e1)]
 have hd2:y / 2^e2=q2:=by rw[s2,Nat.mul_div_cancel_left _ (Nat.two_pow_pos e2)]
 rw[gcd_two r2 s2 r3 s3]at hK
 obtain ⟨e0,he0⟩:∃e,min e1 e2=e:=⟨_,rfl⟩
 rw[he0]at hK
 refine Go1.mk ?_;repeat' ((first|(with_reducible refine Go1.go ?_)|((with_reducible refine isCall (f:=92) ?_);refine callA ?_)|((with_reducible refine isCallS (f:=92) ?_);refine (down_ok 11 0 _ e1 (ofN x) hA0.le (by omega) (by omega) (okN_ofN x) (fun L1 o1 m1 r4 r5=>Stop.mk ?_)))|(refine And.intro ?_ ?_;(try simp only[sxO]at *);omega)|fail)<;>(try simp (maxSteps:=1000000) only [cE_ment,hasK_nil,cE_kill,cE_len,u32_one,u32_app1,u32_set,Nat.mul_one,↓hold_pre,awayP,runOps,regK,step1,newK,genR,appR,obl,buildR,Value.cells,closeK,keepH,outV,retK,ret1,retC,RetV,Option.getD,runD,stepD,afterK,undef,simprocAttr,sxB,↓sxD,sxE,sxTab]))
 rw[hA0.val,hd1]at r5
 refine Stop.go ?_
 refine Go1.mk ?_;repeat' ((first|(with_reducible refine Go1.go ?_)|((with_reducible refine isCall (f:=92) ?_);refine callA ?_)|((with_reducible refine isCallS (f:=92) ?_);refine (down_ok 13 0 _ e2 (ofN y) hB0.le (by omega) (by omega) (okN_ofN y) (fun L2 o2 m2 s4 s5=>Stop.mk ?_)))|(refine And.intro ?_ ?_;(try simp only[sxO]at *);omega)|fail)<;>(try simp (maxSteps:=1000000) only [cE_ment,hasK_nil,cE_kill,cE_len,u32_one,u32_app1,u32_set,Nat.mul_one,↓hold_pre,awayP,runOps,regK,step1,newK,genR,appR,obl,buildR,Value.cells,closeK,keepH,outV,retK,ret1,retC,RetV,Option.getD,runD,stepD,afterK,undef,simprocAttr,sxB,↓sxD,sxE,sxTab]))
 rw[hB0.val,hd2]at s5
 refine Stop.go ?_
 refine Go1.mk ?_;repeat' ((first|(with_reducible refine Go1.go ?_)|(refine And.intro ?_ ?_;(try simp only[sxO]at *);omega)|fail)<;>(try simp (maxSteps:=1000000) only [cE_ment,hasK_nil,cE_kill,cE_len,u32_one,u32_app1,u32_set,Nat.mul_one,↓hold_pre,awayP,runOps,regK,step1,newK,genR,appR,obl,buildR,Value.cells,closeK,keepH,outV,retK,ret1,retC,RetV,Option.getD,runD,stepD,afterK,undef,simprocAttr,sxB,↓sxD,sxE,sxTab]))
 have hes:e0<320000000:=by omega
 have hmn:(if (e2:Int)<(e1:Int) then (e2:Int) else (e1:Int))=(e0:Int):=by split<;>omega
 refine ⟨fun d z=>∃a b oa ma ob mb LA LB,d=a+b∧0<a∧0<b∧a % 2=1∧b % 2=1∧Nat.gcd a b=Nat.gcd q1 q2∧OwnN LA oa ma a∧OwnN LB ob mb b∧LA.length<100000000∧LB.length<100000000∧(z=cmSt M 11 13 oa ma ob mb e1 e2 LA LB∨z=cmSt M 13 11 oa ma ob mb e1 e2 LA LB),
  ⟨q1+q2,cmSt M 11 13 o1 m1 o2 m2 e1 e2 L1 L2,le_sub ⟨rfl,rfl,rfl,rfl,trivial⟩ (by simp[subHp,cmSt,lkH]) rfl rfl rfl (keepLt0 _),⟨q1,q2,_,_,_,_,L1,L2,rfl,by omega,by omega,r3,s3,rfl,r5,s5,by omega,by omega,.inl rfl⟩⟩,?_⟩
 clear hu hv hrow hrow2 hmp hmp2 hA0 hB0 r5 s5
 have htwo:=two_plain (e0 / 32) (s:=e0 % 32) (Nat.mod_lt _ (by decide))
 rw[Nat.div_add_mod]at htwo
 have hz0:AV.ext (Value.int .u32 0) :: List.map AV.ext (repN [Value.int .u32 0] (e0 / 32))=cE u32V (List.replicate (e0 / 32+1) 0):=cE_rep u32V (e0 / 32+1) 0
 have htl:(ofN (2^e0)).length=e0 / 32+1:=by rw[←htwo,List.length_set,List.length_replicate]
 have htw:OwnN (ofN (2^e0)) 0 (e0 / 32+1) (2^e0):=⟨by omega,okN_ofN _,by rw[List.drop_zero,←htl,List.take_length]⟩
 have f0:=hmn
 have f1:IntKind.i64.wrap ((e0:Int).tdiv 32)=((e0 / 32:Nat):Int):=by
  rw[show (32:Int)=((32:Nat):Int) from rfl,←Int.ofNat_tdiv,wrap_id (by omega) (by omega)]
 have f2:IntKind.i64.wrap (((e0 / 32:Nat):Int)+1)=((e0 / 32+1:Nat):Int):=succ_i (by omega)
 have f3:(e0:Int).tmod 32=((e0 % 32:Nat):Int):=by rw[show (32:Int)=((32:Nat):Int) from rfl,←Int.ofNat_tmod]
 have f4:IntKind.u32.wrap ((1:Int)*2^(min (e0 % 32) IntKind.u32.bits))=((2^(e0 % 32):Nat):Int):=by
  have h:=shl32s (t:=1) (s:=e0 % 32) (by rw[Nat.one_mul];exact Nat.pow_lt_pow_right (a:=2) (n:=32) (by decide) (Nat.mod_lt _ (by decide))) (Nat.mod_lt _ (by decide))
  rw[Nat.one_mul]at h
  exact h
 have f5:(0:Int)≤((e0 / 32:Nat):Int):=by omega
 have f6:((e0 / 32:Nat):Int)<((e0 / 32+1:Nat):Int):=by omega
 have f7:(0:Int)≤((e0 % 32:Nat):Int):=by omega
 rintro d z ⟨a,b,oa,ma,ob,mb,LA,LB,rfl,ha0,hbp,ha,hb,hg,hA,hB,hLA,hLB,rfl|rfl⟩
 all_goals
  have hres:a=b→a*2^e0=Nat.gcd q1 q2*2^e0:=fun h=>by rw[←hg,←h,Nat.gcd_self]
 ·rcases Nat.lt_trichotomy a b with hab|hab|hab
  ·have c1:=cmpN_lt hab
   refine Go1.mk ?_;repeat' ((first|(with_reducible refine Go1.go ?_)|((with_reducible refine isCall (f:=70) ?_);refine callA ?_)|((with_reducible refine isCallS (f:=70) ?_);refine (order_bor _ _ _ _ _ _ (by decide) _ _ _ a b hA hB (by omega) (by omega) ?_))|((with_reducible refine isCall (f:=70) ?_);refine callA ?_)|((with_reducible refine isCallS (f:=70) ?_);refine (CallS.order (swap2 (by decide) _ _) (order_bor _ _ _ _ _ _ (by decide) _ _ _ a b hA hB (by omega) (by omega) ⟨_,swap2 (by decide) _ _,?_⟩)))|((with_reducible refine isCall (f:=93) ?_);refine callA ?_)|((with_reducible refine isCallS (f:=93) ?_);refine (takeB_ok _ _ _ _ _ _ _ _ hB hA (by omega) (by omega) (by omega) (fun L3 m3 t1 t2=>Stop.mk ?_)))|((with_reducible refine isCall (f:=93) ?_);refine callA ?_)|((with_reducible refine isCallS (f:=93) ?_);refine (CallS.order (swap2 (by decide) _ _) (takeB_ok _ _ _ _ _ _ _ _ hB hA (by omega) (by omega) (by omega) (fun L3 m3 t1 t2=>⟨_,swap2 (by decide) _ _,Stop.mk ?_⟩))))|(refine And.intro ?_ ?_;(try simp only[sxO]at *);omega)|fail)<;>(try simp (maxSteps:=1000000) only [cE_ment,hasK_nil,cE_kill,cE_len,u32_one,u32_app1,u32_set,Nat.mul_one,cmSt,c1,↓hold_pre,awayP,runOps,regK,step1,newK,genR,appR,obl,buildR,Value.cells,closeK,keepH,outV,retK,ret1,retC,RetV,Option.getD,runD,stepD,afterK,undef,simprocAttr,sxB,↓sxD,sxE,sxTab]))
   refine Stop.go ?_
   refine Go1.mk ?_;repeat' ((first|(with_reducible refine Go1.go ?_)|((with_reducible refine isCall (f:=91) ?_);refine callA ?_)|((with_reducible refine isCallS (f:=91) ?_);refine (zeros_bor 13 _ _ _ L3 (b-a) t2 (by omega) (by omega) (fun e q r1 r2 r3=>Stop.mk ?_)))|(refine And.intro ?_ ?_;(try simp only[sxO]at *);omega)|fail)<;>(try simp (maxSteps:=1000000) only [cE_ment,hasK_nil,cE_kill,cE_len,u32_one,u32_app1,u32_set,Nat.mul_one,↓hold_pre,awayP,runOps,regK,step1,newK,genR,appR,obl,buildR,Value.cells,closeK,keepH,outV,retK,ret1,retC,RetV,Option.getD,runD,stepD,afterK,undef,simprocAttr,sxB,↓sxD,sxE,sxTab]))
   have t3:=t2.len
   have t4:=t2.le
   have hgs:=gcd_step (a:=b) (b:=a) (e:=e) (q:=q) (by omega) (by omega) r2
   have hdv:(b-a) / 2^e=q:=by rw[r2,Nat.mul_div_cancel_left _ (Nat.two_pow_pos e)]
   have hqle:q≤b-a:=by rw[←hdv];exact Nat.div_le_self _ _
   refine Stop.go ?_
   refine Go1.mk ?_;repeat' ((first|(with_reducible refine Go1.go ?_)|((with_reducible refine isCall (f:=92) ?_);refine callA ?_)|((with_reducible refine isCallS (f:=92) ?_);refine (down_ok 13 _ _ e L3 t2.le (by omega) (by omega) t2.ok (fun L4 o4 m4 r4 r5=>Stop.mk ?_)))|(refine And.intro ?_ ?_;(try simp only[sxO]at *);omega)|fail)<;>(try simp (maxSteps:=1000000) only [cE_ment,hasK_nil,cE_kill,cE_len,u32_one,u32_app1,u32_set,Nat.mul_one,↓hold_pre,awayP,runOps,regK,step1,newK,genR,appR,obl,buildR,Value.cells,closeK,keepH,outV,retK,ret1,retC,RetV,Option.getD,runD,stepD,afterK,undef,simprocAttr,sxB,↓sxD,sxE,sxTab]))
   rw[t2.val,hdv]at r5
   refine Stop.go ?_
   refine Go1.mk ?_;repeat' ((first|(with_reducible refine Go1.go ?_)|(refine And.intro ?_ ?_;(try simp only[sxO]at *);omega)|fail)<;>(try simp (maxSteps:=1000000) only [cE_ment,hasK_nil,cE_kill,cE_len,u32_one,u32_app1,u32_set,Nat.mul_one,↓hold_pre,awayP,runOps,regK,step1,newK,genR,appR,obl,buildR,Value.cells,closeK,keepH,outV,retK,ret1,retC,RetV,Option.getD,runD,stepD,afterK,undef,simprocAttr,sxB,↓sxD,sxE,sxTab]))
   exact ⟨q+a,cmSt M 13 11 o4 m4 oa ma e1 e2 L4 LA,by omega,le_sub ⟨rfl,rfl,rfl,rfl,trivial⟩ (by simp[subHp,cmSt,lkH]) rfl rfl rfl (keepLt0 _),q,a,_,_,_,_,L4,LA,rfl,by omega,by omega,r3,by omega,(by rw[hgs];rw[Nat.gcd_comm];exact hg),r5,hA,by omega,by omega,.inr rfl⟩
  ·have c1:cmpN a b=0:=by unfold cmpN;rw[if_neg (by omega),if_pos hab]
   refine Go1.mk ?_;repeat' ((first|(with_reducible refine Go1.go ?_)|((with_reducible refine isCall (f:=70) ?_);refine callA ?_)|((with_reducible refine isCallS (f:=70) ?_);refine (order_bor _ _ _ _ _ _ (by decide) _ _ _ a b hA hB (by omega) (by omega) ?_))|((with_reducible refine isCall (f:=70) ?_);refine callA ?_)|((with_reducible refine isCallS (f:=70) ?_);refine (CallS.order (swap2 (by decide) _ _) (order_bor _ _ _ _ _ _ (by decide) _ _ _ a b hA hB (by omega) (by omega) ⟨_,swap2 (by decide) _ _,?_⟩)))|((with_reducible refine isCall (f:=76) ?_);refine callA ?_)|((with_reducible refine isCallS (f:=76) ?_);refine (times_bor2 11 54 _ _ _ _ (by decide) _ _ _ a (2^e0) hA htw (by omega) (by omega) (fun w M' n1 n2 n3=>Stop.mk ?_)))|((with_reducible refine isCall (f:=76) ?_);refine callA ?_)|((with_reducible refine isCallS (f:=76) ?_);refine (CallS.order (swap2 (by decide) _ _) (times_bor2 11 54 _ _ _ _ (by decide) _ _ _ a (2^e0) hA htw (by omega) (by omega) (fun w M' n1 n2 n3=>⟨_,swap2 (by decide) _ _,Stop.mk ?_⟩))))|(refine And.intro ?_ ?_;(try simp only[sxO]at *);omega)|fail)<;>(try simp (maxSteps:=1000000) only [cE_ment,hasK_nil,cE_kill,cE_len,u32_one,u32_app1,u32_set,Nat.mul_one,cmSt,c1,u32V,List.length_replicate,f0,f1,f2,f3,f4,f5,f6,f7,hz0,htwo,↓hold_pre,awayP,runOps,regK,step1,newK,genR,appR,obl,buildR,Value.cells,closeK,keepH,outV,retK,ret1,retC,RetV,Option.getD,runD,stepD,afterK,undef,simprocAttr,sxB,↓sxD,sxE,sxTab]))
   refine Stop.go ?_
   refine Go1.mk ?_;repeat' ((first|(with_reducible refine Go1.go ?_)|(refine And.intro ?_ ?_;(try simp only[sxO]at *);omega)|fail)<;>(try simp (maxSteps:=1000000) only [n2.one,↓hold_pre,awayP,runOps,regK,step1,newK,genR,appR,obl,buildR,Value.cells,closeK,keepH,outV,retK,ret1,retC,RetV,Option.getD,runD,stepD,afterK,undef,simprocAttr,sxB,↓sxD,sxE,sxTab]))
   rw[hres hab]at n2
   exact .inl (hK _ _ n1 n2 n3)
  ·have c1:=cmpN_gt hab
   refine Go1.mk ?_;repeat' ((first|(with_reducible refine Go1.go ?_)|((with_reducible refine isCall (f:=70) ?_);refine callA ?_)|((with_reducible refine isCallS (f:=70) ?_);refine (order_bor _ _ _ _ _ _ (by decide) _ _ _ a b hA hB (by omega) (by omega) ?_))|((with_reducible refine isCall (f:=70) ?_);refine callA ?_)|((with_reducible refine isCallS (f:=70) ?_);refine (CallS.order (swap2 (by decide) _ _) (order_bor _ _ _ _ _ _ (by decide) _ _ _ a b hA hB (by omega) (by omega) ⟨_,swap2 (by decide) _ _,?_⟩)))|((with_reducible refine isCall (f:=93) ?_);refine callA ?_)|((with_reducible refine isCallS (f:=93) ?_);refine (takeA_ok _ _ _ _ _ _ _ _ hA hB (by omega) (by omega) (by omega) (fun L3 m3 t1 t2=>Stop.mk ?_)))|((with_reducible refine isCall (f:=93) ?_);refine callA ?_)|((with_reducible refine isCallS (f:=93) ?_);refine (CallS.order (swap2 (by decide) _ _) (takeA_ok _ _ _ _ _ _ _ _ hA hB (by omega) (by omega) (by omega) (fun L3 m3 t1 t2=>⟨_,swap2 (by decide) _ _,Stop.mk ?_⟩))))|(refine And.intro ?_ ?_;(try simp only[sxO]at *);omega)|fail)<;>(try simp (maxSteps:=1000000) only [cE_ment,hasK_nil,cE_kill,cE_len,u32_one,u32_app1,u32_set,Nat.mul_one,cmSt,c1,↓hold_pre,awayP,runOps,regK,step1,newK,genR,appR,obl,buildR,Value.cells,closeK,keepH,outV,retK,ret1,retC,RetV,Option.getD,runD,stepD,afterK,undef,simprocAttr,sxB,↓sxD,sxE,sxTab]))
   refine Stop.go ?_
   refine Go1.mk ?_;repeat' ((first|(with_reducible refine Go1.go ?_)|((with_reducible refine isCall (f:=91) ?_);refine callA ?_)|((with_reducible refine isCallS (f:=91) ?_);refine (zeros_bor 11 _ _ _ L3 (a-b) t2 (by omega) (by omega) (fun e q r1 r2 r3=>Stop.mk ?_)))|(refine And.intro ?_ ?_;(try simp only[sxO]at *);omega)|fail)<;>(try simp (maxSteps:=1000000) only [cE_ment,hasK_nil,cE_kill,cE_len,u32_one,u32_app1,u32_set,Nat.mul_one,↓hold_pre,awayP,runOps,regK,step1,newK,genR,appR,obl,buildR,Value.cells,closeK,keepH,outV,retK,ret1,retC,RetV,Option.getD,runD,stepD,afterK,undef,simprocAttr,sxB,↓sxD,sxE,sxTab]))
   have t3:=t2.len
   have t4:=t2.le
   have hgs:=gcd_step (a:=a) (b:=b) (e:=e) (q:=q) (by omega) (by omega) r2
   have hdv:(a-b) / 2^e=q:=by rw[r2,Nat.mul_div_cancel_left _ (Nat.two_pow_pos e)]
   have hqle:q≤a-b:=by rw[←hdv];exact Nat.div_le_self _ _
   refine Stop.go ?_
   refine Go1.mk ?_;repeat' ((first|(with_reducible refine Go1.go ?_)|((with_reducible refine isCall (f:=92) ?_);refine callA ?_)|((with_reducible refine isCallS (f:=92) ?_);refine (down_ok 11 _ _ e L3 t2.le (by omega) (by omega) t2.ok (fun L4 o4 m4 r4 r5=>Stop.mk ?_)))|(refine And.intro ?_ ?_;(try simp only[sxO]at *);omega)|fail)<;>(try simp (maxSteps:=1000000) only [cE_ment,hasK_nil,cE_kill,cE_len,u32_one,u32_app1,u32_set,Nat.mul_one,↓hold_pre,awayP,runOps,regK,step1,newK,genR,appR,obl,buildR,Value.cells,closeK,keepH,outV,retK,ret1,retC,RetV,Option.getD,runD,stepD,afterK,undef,simprocAttr,sxB,↓sxD,sxE,sxTab]))
   rw[t2.val,hdv]at r5
   refine Stop.go ?_
   refine Go1.mk ?_;repeat' ((first|(with_reducible refine Go1.go ?_)|(refine And.intro ?_ ?_;(try simp only[sxO]at *);omega)|fail)<;>(try simp (maxSteps:=1000000) only [cE_ment,hasK_nil,cE_kill,cE_len,u32_one,u32_app1,u32_set,Nat.mul_one,↓hold_pre,awayP,runOps,regK,step1,newK,genR,appR,obl,buildR,Value.cells,closeK,keepH,outV,retK,ret1,retC,RetV,Option.getD,runD,stepD,afterK,undef,simprocAttr,sxB,↓sxD,sxE,sxTab]))
   exact ⟨q+b,cmSt M 11 13 o4 m4 ob mb e1 e2 L4 LB,by omega,le_sub ⟨rfl,rfl,rfl,rfl,trivial⟩ (by simp[subHp,cmSt,lkH]) rfl rfl rfl (keepLt0 _),q,b,_,_,_,_,L4,LB,rfl,by omega,by omega,r3,by omega,(by rw[hgs];exact hg),r5,hB,by omega,by omega,.inl rfl⟩
 ·rcases Nat.lt_trichotomy a b with hab|hab|hab
  ·have c1:=cmpN_lt hab
   refine Go1.mk ?_;repeat' ((first|(with_reducible refine Go1.go ?_)|((with_reducible refine isCall (f:=70) ?_);refine callA ?_)|((with_reducible refine isCallS (f:=70) ?_);refine (order_bor _ _ _ _ _ _ (by decide) _ _ _ a b hA hB (by omega) (by omega) ?_))|((with_reducible refine isCall (f:=70) ?_);refine callA ?_)|((with_reducible refine isCallS (f:=70) ?_);refine (CallS.order (swap2 (by decide) _ _) (order_bor _ _ _ _ _ _ (by decide) _ _ _ a b hA hB (by omega) (by omega) ⟨_,swap2 (by decide) _ _,?_⟩)))|((with_reducible refine isCall (f:=93) ?_);refine callA ?_)|((with_reducible refine isCallS (f:=93) ?_);refine (takeA_ok _ _ _ _ _ _ _ _ hB hA (by omega) (by omega) (by omega) (fun L3 m3 t1 t2=>Stop.mk ?_)))|((with_reducible refine isCall (f:=93) ?_);refine callA ?_)|((with_reducible refine isCallS (f:=93) ?_);refine (CallS.order (swap2 (by decide) _ _) (takeA_ok _ _ _ _ _ _ _ _ hB hA (by omega) (by omega) (by omega) (fun L3 m3 t1 t2=>⟨_,swap2 (by decide) _ _,Stop.mk ?_⟩))))|(refine And.intro ?_ ?_;(try simp only[sxO]at *);omega)|fail)<;>(try simp (maxSteps:=1000000) only [cE_ment,hasK_nil,cE_kill,cE_len,u32_one,u32_app1,u32_set,Nat.mul_one,cmSt,c1,↓hold_pre,awayP,runOps,regK,step1,newK,genR,appR,obl,buildR,Value.cells,closeK,keepH,outV,retK,ret1,retC,RetV,Option.getD,runD,stepD,afterK,undef,simprocAttr,sxB,↓sxD,sxE,sxTab]))
   refine Stop.go ?_
   refine Go1.mk ?_;repeat' ((first|(with_reducible refine Go1.go ?_)|((with_reducible refine isCall (f:=91) ?_);refine callA ?_)|((with_reducible refine isCallS (f:=91) ?_);refine (zeros_bor 11 _ _ _ L3 (b-a) t2 (by omega) (by omega) (fun e q r1 r2 r3=>Stop.mk ?_)))|(refine And.intro ?_ ?_;(try simp only[sxO]at *);omega)|fail)<;>(try simp (maxSteps:=1000000) only [cE_ment,hasK_nil,cE_kill,cE_len,u32_one,u32_app1,u32_set,Nat.mul_one,↓hold_pre,awayP,runOps,regK,step1,newK,genR,appR,obl,buildR,Value.cells,closeK,keepH,outV,retK,ret1,retC,RetV,Option.getD,runD,stepD,afterK,undef,simprocAttr,sxB,↓sxD,sxE,sxTab]))
   have t3:=t2.len
   have t4:=t2.le
   have hgs:=gcd_step (a:=b) (b:=a) (e:=e) (q:=q) (by omega) (by omega) r2
   have hdv:(b-a) / 2^e=q:=by rw[r2,Nat.mul_div_cancel_left _ (Nat.two_pow_pos e)]
   have hqle:q≤b-a:=by rw[←hdv];exact Nat.div_le_self _ _
   refine Stop.go ?_
   refine Go1.mk ?_;repeat' ((first|(with_reducible refine Go1.go ?_)|((with_reducible refine isCall (f:=92) ?_);refine callA ?_)|((with_reducible refine isCallS (f:=92) ?_);refine (down_ok 11 _ _ e L3 t2.le (by omega) (by omega) t2.ok (fun L4 o4 m4 r4 r5=>Stop.mk ?_)))|(refine And.intro ?_ ?_;(try simp only[sxO]at *);omega)|fail)<;>(try simp (maxSteps:=1000000) only [cE_ment,hasK_nil,cE_kill,cE_len,u32_one,u32_app1,u32_set,Nat.mul_one,↓hold_pre,awayP,runOps,regK,step1,newK,genR,appR,obl,buildR,Value.cells,closeK,keepH,outV,retK,ret1,retC,RetV,Option.getD,runD,stepD,afterK,undef,simprocAttr,sxB,↓sxD,sxE,sxTab]))
   rw[t2.val,hdv]at r5
   refine Stop.go ?_
   refine Go1.mk ?_;repeat' ((first|(with_reducible refine Go1.go ?_)|(refine And.intro ?_ ?_;(try simp only[sxO]at *);omega)|fail)<;>(try simp (maxSteps:=1000000) only [cE_ment,hasK_nil,cE_kill,cE_len,u32_one,u32_app1,u32_set,Nat.mul_one,↓hold_pre,awayP,runOps,regK,step1,newK,genR,appR,obl,buildR,Value.cells,closeK,keepH,outV,retK,ret1,retC,RetV,Option.getD,runD,stepD,afterK,undef,simprocAttr,sxB,↓sxD,sxE,sxTab]))
   exact ⟨q+a,cmSt M 11 13 o4 m4 oa ma e1 e2 L4 LA,by omega,le_sub ⟨rfl,rfl,rfl,rfl,trivial⟩ (by simp[subHp,cmSt,lkH]) rfl rfl rfl (keepLt0 _),q,a,_,_,_,_,L4,LA,rfl,by omega,by omega,r3,by omega,(by rw[hgs];rw[Nat.gcd_comm];exact hg),r5,hA,by omega,by omega,.inl rfl⟩
  ·have c1:cmpN a b=0:=by unfold cmpN;rw[if_neg (by omega),if_pos hab]
   refine Go1.mk ?_;repeat' ((first|(with_reducible refine Go1.go ?_)|((with_reducible refine isCall (f:=70) ?_);refine callA ?_)|((with_reducible refine isCallS (f:=70) ?_);refine (order_bor _ _ _ _ _ _ (by decide) _ _ _ a b hA hB (by omega) (by omega) ?_))|((with_reducible refine isCall (f:=70) ?_);refine callA ?_)|((with_reducible refine isCallS (f:=70) ?_);refine (CallS.order (swap2 (by decide) _ _) (order_bor _ _ _ _ _ _ (by decide) _ _ _ a b hA hB (by omega) (by omega) ⟨_,swap2 (by decide) _ _,?_⟩)))|((with_reducible refine isCall (f:=76) ?_);refine callA ?_)|((with_reducible refine isCallS (f:=76) ?_);refine (times_bor2 13 54 _ _ _ _ (by decide) _ _ _ a (2^e0) hA htw (by omega) (by omega) (fun w M' n1 n2 n3=>Stop.mk ?_)))|((with_reducible refine isCall (f:=76) ?_);refine callA ?_)|((with_reducible refine isCallS (f:=76) ?_);refine (CallS.order (swap2 (by decide) _ _) (times_bor2 13 54 _ _ _ _ (by decide) _ _ _ a (2^e0) hA htw (by omega) (by omega) (fun w M' n1 n2 n3=>⟨_,swap2 (by decide) _ _,Stop.mk ?_⟩))))|(refine And.intro ?_ ?_;(try simp only[sxO]at *);omega)|fail)<;>(try simp (maxSteps:=1000000) only [cE_ment,hasK_nil,cE_kill,cE_len,u32_one,u32_app1,u32_set,Nat.mul_one,cmSt,c1,u32V,List.length_replicate,f0,f1,f2,f3,f4,f5,f6,f7,hz0,htwo,↓hold_pre,awayP,runOps,regK,step1,newK,genR,appR,obl,buildR,Value.cells,closeK,keepH,outV,retK,ret1,retC,RetV,Option.getD,runD,stepD,afterK,undef,simprocAttr,sxB,↓sxD,sxE,sxTab]))
   refine Stop.go ?_
   refine Go1.mk ?_;repeat' ((first|(with_reducible refine Go1.go ?_)|(refine And.intro ?_ ?_;(try simp only[sxO]at *);omega)|fail)<;>(try simp (maxSteps:=1000000) only [n2.one,↓hold_pre,awayP,runOps,regK,step1,newK,genR,appR,obl,buildR,Value.cells,closeK,keepH,outV,retK,ret1,retC,RetV,Option.getD,runD,stepD,afterK,undef,simprocAttr,sxB,↓sxD,sxE,sxTab]))
   rw[hres hab]at n2
   exact .inl (hK _ _ n1 n2 n3)
  ·have c1:=cmpN_gt hab
   refine Go1.mk ?_;repeat' ((first|(with_reducible refine Go1.go ?_)|((with_reducible refine isCall (f:=70) ?_);refine callA ?_)|((with_reducible refine isCallS (f:=70) ?_);refine (order_bor _ _ _ _ _ _ (by decide) _ _ _ a b hA hB (by omega) (by omega) ?_))|((with_reducible refine isCall (f:=70) ?_);refine callA ?_)|((with_reducible refine isCallS (f:=70) ?_);refine (CallS.order (swap2 (by decide) _ _) (order_bor _ _ _ _ _ _ (by decide) _ _ _ a b hA hB (by omega) (by omega) ⟨_,swap2 (by decide) _ _,?_⟩)))|((with_reducible refine isCall (f:=93) ?_);refine callA ?_)|((with_reducible refine isCallS (f:=93) ?_);refine (takeB_ok _ _ _ _ _ _ _ _ hA hB (by omega) (by omega) (by omega) (fun L3 m3 t1 t2=>Stop.mk ?_)))|((with_reducible refine isCall (f:=93) ?_);refine callA ?_)|((with_reducible refine isCallS (f:=93) ?_);refine (CallS.order (swap2 (by decide) _ _) (takeB_ok _ _ _ _ _ _ _ _ hA hB (by omega) (by omega) (by omega) (fun L3 m3 t1 t2=>⟨_,swap2 (by decide) _ _,Stop.mk ?_⟩))))|(refine And.intro ?_ ?_;(try simp only[sxO]at *);omega)|fail)<;>(try simp (maxSteps:=1000000) only [cE_ment,hasK_nil,cE_kill,cE_len,u32_one,u32_app1,u32_set,Nat.mul_one,cmSt,c1,↓hold_pre,awayP,runOps,regK,step1,newK,genR,appR,obl,buildR,Value.cells,closeK,keepH,outV,retK,ret1,retC,RetV,Option.getD,runD,stepD,afterK,undef,simprocAttr,sxB,↓sxD,sxE,sxTab]))
   refine Stop.go ?_
   refine Go1.mk ?_;repeat' ((first|(with_reducible refine Go1.go ?_)|((with_reducible refine isCall (f:=91) ?_);refine callA ?_)|((with_reducible refine isCallS (f:=91) ?_);refine (zeros_bor 13 _ _ _ L3 (a-b) t2 (by omega) (by omega) (fun e q r1 r2 r3=>Stop.mk ?_)))|(refine And.intro ?_ ?_;(try simp only[sxO]at *);omega)|fail)<;>(try simp (maxSteps:=1000000) only [cE_ment,hasK_nil,cE_kill,cE_len,u32_one,u32_app1,u32_set,Nat.mul_one,↓hold_pre,awayP,runOps,regK,step1,newK,genR,appR,obl,buildR,Value.cells,closeK,keepH,outV,retK,ret1,retC,RetV,Option.getD,runD,stepD,afterK,undef,simprocAttr,sxB,↓sxD,sxE,sxTab]))
   have t3:=t2.len
   have t4:=t2.le
   have hgs:=gcd_step (a:=a) (b:=b) (e:=e) (q:=q) (by omega) (by omega) r2
   have hdv:(a-b) / 2^e=q:=by rw[r2,Nat.mul_div_cancel_left _ (Nat.two_pow_pos e)]
   have hqle:q≤a-b:=by rw[←hdv];exact Nat.div_le_self _ _
   refine Stop.go ?_
   refine Go1.mk ?_;repeat' ((first|(with_reducible refine Go1.go ?_)|((with_reducible refine isCall (f:=92) ?_);refine callA ?_)|((with_reducible refine isCallS (f:=92) ?_);refine (down_ok 13 _ _ e L3 t2.le (by omega) (by omega) t2.ok (fun L4 o4 m4 r4 r5=>Stop.mk ?_)))|(refine And.intro ?_ ?_;(try simp only[sxO]at *);omega)|fail)<;>(try simp (maxSteps:=1000000) only [cE_ment,hasK_nil,cE_kill,cE_len,u32_one,u32_app1,u32_set,Nat.mul_one,↓hold_pre,awayP,runOps,regK,step1,newK,genR,appR,obl,buildR,Value.cells,closeK,keepH,outV,retK,ret1,retC,RetV,Option.getD,runD,stepD,afterK,undef,simprocAttr,sxB,↓sxD,sxE,sxTab]))
   rw[t2.val,hdv]at r5
   refine Stop.go ?_
   refine Go1.mk ?_;repeat' ((first|(with_reducible refine Go1.go ?_)|(refine And.intro ?_ ?_;(try simp only[sxO]at *);omega)|fail)<;>(try simp (maxSteps:=1000000) only [cE_ment,hasK_nil,cE_kill,cE_len,u32_one,u32_app1,u32_set,Nat.mul_one,↓hold_pre,awayP,runOps,regK,step1,newK,genR,appR,obl,buildR,Value.cells,closeK,keepH,outV,retK,ret1,retC,RetV,Option.getD,runD,stepD,afterK,undef,simprocAttr,sxB,↓sxD,sxE,sxTab]))
   exact ⟨q+b,cmSt M 13 11 o4 m4 ob mb e1 e2 L4 LB,by omega,le_sub ⟨rfl,rfl,rfl,rfl,trivial⟩ (by simp[subHp,cmSt,lkH]) rfl rfl rfl (keepLt0 _),q,b,_,_,_,_,L4,LB,rfl,by omega,by omega,r3,by omega,(by rw[hgs];exact hg),r5,hB,by omega,by omega,.inr rfl⟩
end
end Go.Proofs.Ytjapnklocibgaaa.Sx
namespace Go.Proofs.Ytjapnklocibgaaa.Sx
open Go Go.RowKit
set_option linter.unusedVariables false
set_option linter.unusedSimpArgs false
set_option maxRecDepth 100000
set_option maxHeartbeats 8000000
attribute [local congr] fin_congr finG_congr stepG_congr step1_congr runOps_congr brv_congr obl_congr condK_congr LoopK_congr seqK_congr CutK_congr vc_congr DrawK_congr regK_congr CallK_congr AskK_congr newK_congr retC_congr ret1_congr retK_congr outV_congr closeK_congr genR_congr appR_congr finD_congr finGD_congr stepGD_congr stepD_congr CallK0_congr runD_congr okR_congr CallS_congr vcX_congr
attribute [local congr] Stop_congr
section
variable {M:Mem}{K:AV→Hp→Mem→Prop}{u1 u2:Value}{l1 l2:List Nat}
theorem rorder_bor2(k n:Nat)(T:TypeId)(u:Value)(x y:Nat)(L:List Nat)(hL:L=ofN y)(hn:n=L.length)(hv:IsL M u32V u (ofN x))(hx:(ofN x).length<100000000)(hy:(ofN y).length<100000000)(hK:K (.ext (.int .i64 (cmpN x y))) [(k,T,cE u32V L)] M) :
  CallS Try.prog 70 [.ext u,.slo k 0 n 1] [(k,T,cE u32V L)] M [] K:=by
 refine CallS.bor ⟨⟨_,rfl⟩,trivial⟩ fun us M' hM hb'=>?_
 obtain ⟨v1,_,rfl,h1,v2,_,rfl,h2,rfl⟩:=hb'
 have h1:v1=u:=h1
 subst h1
 have g1:=h2.isL (g:=u32V) (L:=L) (T:=T) (by simp[lkH]) hn
 rw[hL]at g1
 exact rorder_ok v1 v2 x y (hv.le hM) g1 hx hy (BorK.same hK)
theorem cmp_one(g:Nat):decide (cmpN g 1=0)=(g==1):=by
 rw[Bool.eq_iff_iff,decide_eq_true_eq,beq_iff_eq]
 unfold cmpN
 by_cases h:g=1
 ·subst h;simp
 ·rw[if_neg h]
  constructor
  ·intro h2;split at h2<;>omega
  ·intro h2;exact absurd h2 h
theorem ofN_1:ofN 1=[1]:=by rw[ofN_pos (by decide),show 1 / 4294967296=0 from rfl,ofN_zero]
theorem rfcheck_ok(h1:IsL M u32V u1 l1)(h2:IsL M u32V u2 l2)(o1:okN l1)(o2:okN l2)(b1:l1.length<1000000)(b2:l2.length<1000000)(hK:∀M',Mem.le M M'→K (.ext (.bool (chkF l1 l2))) [] M'):CallS Try.prog 50 [.ext (.agg #[u1,u2])] [] M [] K:=by
 refine inlS (cs:=[]) Try.mixed Try.func50 rfl (by kernel_rfl) 0 rfl rfl ?_
 simp only[Try.f50]
 unfold chkF at hK
 cases hc1:chkN l1 with
 | false=>
  rw[hc1]at hK
  refine Go1.mk ?_;repeat' ((first|(with_reducible refine Go1.go ?_)|(((with_reducible refine isCall (f:=69) ?_);refine callA_nil (by kernel_rfl) ?_;refine (rcheck_ok u1 l1 h1 (by omega) ?_)))|(refine And.intro ?_ ?_;(try simp only[sxO]at *);omega)|fail)<;>(try simp (maxSteps:=1000000) only [h1.one,h2.one,hc1,↓hold_pre,awayP,runOps,regK,step1,newK,genR,appR,obl,buildR,Value.cells,closeK,keepH,outV,retK,ret1,retC,RetV,Option.getD,runD,stepD,afterK,undef,simprocAttr,sxB,↓sxD,sxE,sxTab]))
  exact hK _ (Mem.le.refl _)
 | true=>
  cases hc2:chkN l2 with
  | false=>
   rw[hc1,hc2]at hK
   refine Go1.mk ?_;repeat' ((first|(with_reducible refine Go1.go ?_)|(((with_reducible refine isCall (f:=69) ?_);refine callA_nil (by kernel_rfl) ?_;refine (rcheck_ok u1 l1 h1 (by omega) ?_)))|(((with_reducible refine isCall (f:=69) ?_);refine callA_nil (by kernel_rfl) ?_;refine (rcheck_ok u2 l2 h2 (by omega) ?_)))|(refine And.intro ?_ ?_;(try simp only[sxO]at *);omega)|fail)<;>(try simp (maxSteps:=1000000) only [h1.one,h2.one,hc1,hc2,↓hold_pre,awayP,runOps,regK,step1,newK,genR,appR,obl,buildR,Value.cells,closeK,keepH,outV,retK,ret1,retC,RetV,Option.getD,runD,stepD,afterK,undef,simprocAttr,sxB,↓sxD,sxE,sxTab]))
   exact hK _ (Mem.le.refl _)
  | true=>
   obtain ⟨e1,_⟩:=chkN_ok o1 hc1
   obtain ⟨e2,_⟩:=chkN_ok o2 hc2
   have h1':=h1
   have h2':=h2
   rw[e1]at h1'
   rw[e2]at h2'
   have hz:=nil_iff e2
   by_cases h0:valN l2=0
   ·rw[hc1,hc2,decide_eq_true h0]at hK
    have d1:decide ((0:Int)<(l2.length:Int))=false:=by rw[decide_eq_false_iff_not];have:=hz.2 h0;omega
    refine Go1.mk ?_;repeat' ((first|(with_reducible refine Go1.go ?_)|(((with_reducible refine isCall (f:=69) ?_);refine callA_nil (by kernel_rfl) ?_;refine (rcheck_ok u1 l1 h1 (by omega) ?_)))|(((with_reducible refine isCall (f:=69) ?_);refine callA_nil (by kernel_rfl) ?_;refine (rcheck_ok u2 l2 h2 (by omega) ?_)))|(refine And.intro ?_ ?_;(try simp only[sxO]at *);omega)|fail)<;>(try simp (maxSteps:=1000000) only [h1.one,h2.one,h2.len,h2.sl,hc1,hc2,d1,↓hold_pre,awayP,runOps,regK,step1,newK,genR,appR,obl,buildR,Value.cells,closeK,keepH,outV,retK,ret1,retC,RetV,Option.getD,runD,stepD,afterK,undef,simprocAttr,sxB,↓sxD,sxE,sxTab]))
    exact hK _ (Mem.le.refl _)
   have d1:decide ((0:Int)<(l2.length:Int))=true:=by rw[decide_eq_true_eq];have:=fun h=>h0 (hz.1 h);omega
   rw[hc1,hc2,decide_eq_false h0]at hK
   have hgl:=len_mono (Nat.gcd_le_right (valN l1) (show 0<valN l2 by omega))
   rw[←e2]at hgl
   have hcm:=cmp_one (Nat.gcd (valN l1) (valN l2))
   refine Go1.mk ?_;repeat' ((first|(with_reducible refine Go1.go ?_)|(((with_reducible refine isCall (f:=69) ?_);refine callA_nil (by kernel_rfl) ?_;refine (rcheck_ok u1 l1 h1 (by omega) ?_)))|(((with_reducible refine isCall (f:=69) ?_);refine callA_nil (by kernel_rfl) ?_;refine (rcheck_ok u2 l2 h2 (by omega) ?_)))|(((with_reducible refine isCall (f:=71) ?_);refine callA_nil (by kernel_rfl) ?_;refine (common_ok u1 u2 _ _ h1' h2' (by rw[←e1];omega) (by rw[←e2];omega) (fun g M1 a1 a2 a3=>Stop.mk ?_))))|(refine And.intro ?_ ?_;(try simp only[sxO]at *);omega)|fail)<;>(try simp (maxSteps:=1000000) only [h1.one,h2.one,h2.len,h2.sl,hc1,hc2,d1,↓hold_pre,awayP,runOps,regK,step1,newK,genR,appR,obl,buildR,Value.cells,closeK,keepH,outV,retK,ret1,retC,RetV,Option.getD,runD,stepD,afterK,undef,simprocAttr,sxB,↓sxD,sxE,sxTab]))
   have a1:Mem.le M M1:=a1
   refine Stop.go ?_
   refine Go1.mk ?_;repeat' ((first|(with_reducible refine Go1.go ?_)|((with_reducible refine isCall (f:=70) ?_);refine callA ?_)|((with_reducible refine isCallS (f:=70) ?_);refine (rorder_bor2 23 1 _ g _ 1 [1] ofN_1.symm rfl a2 (by omega) (by rw[ofN_1];decide) ?_))|(refine And.intro ?_ ?_;(try simp only[sxO]at *);omega)|fail)<;>(try simp (maxSteps:=1000000) only [a2.one,hcm,cE_ment,hasK_nil,cE_kill,cE_len,u32_one,u32_app1,u32_set,Nat.mul_one,↓hold_pre,awayP,runOps,regK,step1,newK,genR,appR,obl,buildR,Value.cells,closeK,keepH,outV,retK,ret1,retC,RetV,Option.getD,runD,stepD,afterK,undef,simprocAttr,sxB,↓sxD,sxE,sxTab]))
   exact hK _ a1
end
end Go.Proofs.Ytjapnklocibgaaa.Sx
namespace Go.Proofs.Ytjapnklocibgaaa.Sx
open Go Go.RowKit
set_option linter.unusedVariables false
set_option linter.unusedSimpArgs false
set_option maxRecDepth 100000
set_option maxHeartbeats 8000000
attribute [local congr] fin_congr finG_congr stepG_congr step1_congr runOps_congr brv_congr obl_congr condK_congr LoopK_congr seqK_congr CutK_congr vc_congr DrawK_congr regK_congr CallK_congr AskK_congr newK_congr retC_congr ret1_congr retK_congr outV_congr closeK_congr genR_congr appR_congr finD_congr finGD_congr stepGD_congr stepD_congr CallK0_congr runD_congr okR_congr CallS_congr vcX_congr
attribute [local congr] Stop_congr
section
variable {M:Mem}{K:AV→Hp→Mem→Prop}{u v:Value}{l1 l2:List Nat}
end
end Go.Proofs.Ytjapnklocibgaaa.Sx
namespace Go.Proofs.Ytjapnklocibgaaa.Sx
open Go Go.RowKit
set_option linter.unusedVariables false
set_option linter.unusedSimpArgs false
set_option maxRecDepth 100000
set_option maxHeartbeats 8000000
attribute [local congr] fin_congr finG_congr stepG_congr step1_congr runOps_congr brv_congr obl_congr condK_congr LoopK_congr seqK_congr CutK_congr vc_congr DrawK_congr regK_congr CallK_congr AskK_congr newK_congr retC_congr ret1_congr retK_congr outV_congr closeK_congr genR_congr appR_congr finD_congr finGD_congr stepGD_congr stepD_congr CallK0_congr runD_congr okR_congr CallS_congr vcX_congr
attribute [local congr] Stop_congr
section
variable {M:Mem}{K:AV→Hp→Mem→Prop}{u v:Value}{l1 l2:List Nat}
end
end Go.Proofs.Ytjapnklocibgaaa.Sx
namespace Go.Proofs.Ytjapnklocibgaaa.Sx
open Go Go.RowKit
set_option linter.unusedVariables false
set_option linter.unusedSimpArgs false
set_option maxRecDepth 100000
set_option maxHeartbeats 8000000
attribute [local congr] fin_congr finG_congr stepG_congr step1_congr runOps_congr brv_congr obl_congr condK_congr LoopK_congr seqK_congr CutK_congr vc_congr DrawK_congr regK_congr CallK_congr AskK_congr newK_congr retC_congr ret1_congr retK_congr outV_congr closeK_congr genR_congr appR_congr finD_congr finGD_congr stepGD_congr stepD_congr CallK0_congr runD_congr okR_congr CallS_congr vcX_congr
attribute [local congr] Stop_congr
section
variable {M:Mem}{K:AV→Hp→Mem→Prop}{u1 u2:Value}{l1 l2:List Nat}
end
end Go.Proofs.Ytjapnklocibgaaa.Sx
namespace Go.Proofs.Ytjapnklocibgaaa.Sx
open Go Go.RowKit
set_option linter.unusedVariables false
set_option linter.unusedSimpArgs false
set_option maxRecDepth 100000
set_option maxHeartbeats 8000000
attribute [local congr] fin_congr finG_congr stepG_congr step1_congr runOps_congr brv_congr obl_congr condK_congr LoopK_congr seqK_congr CutK_congr vc_congr DrawK_congr regK_congr CallK_congr AskK_congr newK_congr retC_congr ret1_congr retK_congr outV_congr closeK_congr genR_congr appR_congr finD_congr finGD_congr stepGD_congr stepD_congr CallK0_congr runD_congr okR_congr CallS_congr vcX_congr
attribute [local congr] Stop_congr
theorem i64_wf{x:Int}(h:(Lit.int .i64 x).wf=true) : -9223372036854775808≤x∧x≤9223372036854775807:=by
 have e1:IntKind.i64.min=-9223372036854775808:=rfl
 have e2:IntKind.i64.max=9223372036854775807:=rfl
 simp only[Lit.wf,e1,e2,Bool.and_eq_true,decide_eq_true_eq]at h
 exact h
section
variable {M:Mem}{K:AV→Hp→Mem→Prop}{u1 u2 v1 v2:Value}{l1 l2 k1 k2:List Nat}
theorem sameFrac_ok(h1:IsL M u32V u1 l1)(h2:IsL M u32V u2 l2)(k1:IsL M u32V v1 l1)(k2:IsL M u32V v2 l2)(b1:l1.length<1000000000)(b2:l2.length<1000000000)(hK:K (.ext (.bool true)) [] M):CallS Try.prog 33 [.ext (.agg #[u1,u2]),.ext (.agg #[v1,v2])] [] M [] K:=by
 refine inlS (cs:=[]) Try.mixed Try.func33 rfl (by kernel_rfl) 0 rfl rfl ?_
 simp only[Try.f33]
 refine Go1.mk ?_;repeat' ((first|(with_reducible refine Go1.go ?_)|(((with_reducible refine isCall (f:=57) ?_);refine callA_nil (by kernel_rfl) ?_;refine (sameNat_ok u1 v1 l1 h1 k1 b1 ?_)))|(((with_reducible refine isCall (f:=57) ?_);refine callA_nil (by kernel_rfl) ?_;refine (sameNat_ok u2 v2 l2 h2 k2 b2 ?_)))|(refine And.intro ?_ ?_;(try simp only[sxO]at *);omega)|fail)<;>(try simp (maxSteps:=1000000) only [h1.one,h2.one,k1.one,k2.one,↓hold_pre,awayP,runOps,regK,step1,newK,genR,appR,obl,buildR,Value.cells,closeK,keepH,outV,retK,ret1,retC,RetV,Option.getD,runD,stepD,afterK,undef,simprocAttr,sxB,↓sxD,sxE,sxTab]))
 exact hK
end
end Go.Proofs.Ytjapnklocibgaaa.Sx
namespace Go.Proofs.Ytjapnklocibgaaa.Sx
open Go Go.RowKit
set_option linter.unusedVariables false
set_option linter.unusedSimpArgs false
set_option maxRecDepth 100000
set_option maxHeartbeats 8000000
attribute [local congr] fin_congr finG_congr stepG_congr step1_congr runOps_congr brv_congr obl_congr condK_congr LoopK_congr seqK_congr CutK_congr vc_congr DrawK_congr regK_congr CallK_congr AskK_congr newK_congr retC_congr ret1_congr retK_congr outV_congr closeK_congr genR_congr appR_congr finD_congr finGD_congr stepGD_congr stepD_congr CallK0_congr runD_congr okR_congr CallS_congr vcX_congr
attribute [local congr] Stop_congr
section
variable {M:Mem}{K:AV→Hp→Mem→Prop}{u1 u2 v1 v2:Value}{l1 l2 k1 k2:List Nat}
end
end Go.Proofs.Ytjapnklocibgaaa.Sx
namespace Go.Proofs.Ytjapnklocibgaaa.Sx
open Go Go.RowKit
set_option linter.unusedVariables false
set_option linter.unusedSimpArgs false
set_option maxRecDepth 100000
set_option maxHeartbeats 8000000
attribute [local congr] fin_congr finG_congr stepG_congr step1_congr runOps_congr brv_congr obl_congr condK_congr LoopK_congr seqK_congr CutK_congr vc_congr DrawK_congr regK_congr CallK_congr AskK_congr newK_congr retC_congr ret1_congr retK_congr outV_congr closeK_congr genR_congr appR_congr finD_congr finGD_congr stepGD_congr stepD_congr CallK0_congr runD_congr okR_congr CallS_congr vcX_congr
attribute [local congr] Stop_congr
section
variable {M:Mem}{K:AV→Hp→Mem→Prop}
end
end Go.Proofs.Ytjapnklocibgaaa.Sx
namespace Go.Proofs.Ytjapnklocibgaaa.Sx
open Go Go.RowKit
theorem exF_low{x y k:Nat}(h0:0<y)(hx:(ofN x).length≤k)(hy:(ofN y).length≤k)(hk:k≤128):∃n d,exF x y=(0,n,d)∧n*y=x*d∧Nat.gcd n d=1∧0<d∧(ofN n).length≤k∧(ofN d).length≤k:=by
 have hg0:0<Nat.gcd x y:=Nat.gcd_pos_of_pos_right _ h0
 refine ⟨_,_,exF_is (by omega) (by omega),?_,Nat.gcd_div_gcd_div_gcd_of_pos_right h0,Nat.div_pos (Nat.gcd_le_right x h0) hg0,Nat.le_trans (len_mono (Nat.div_le_self _ _)) hx,Nat.le_trans (len_mono (Nat.div_le_self _ _)) hy⟩
 have h1:=Nat.div_mul_cancel (Nat.gcd_dvd_left x y)
 have h2:=Nat.div_mul_cancel (Nat.gcd_dvd_right x y)
 generalize x / Nat.gcd x y=a at *
 generalize y / Nat.gcd x y=b at *
 generalize Nat.gcd x y=g at *
 subst h1 h2
 grind
theorem exF_eq{x y n d:Nat}(h0:0<y)(hd:0<d)(h:x*d=n*y)(hg:Nat.gcd n d=1)(h1:(ofN n).length≤128)(h2:(ofN d).length≤128):exF x y=(0,n,d):=by
 have hdv:d∣y:=(Nat.Coprime.symm hg).dvd_of_dvd_mul_left ⟨x,by rw[←h,Nat.mul_comm]⟩
 obtain ⟨k,rfl⟩:=hdv
 have hx:x=n*k:=by
  refine Nat.eq_of_mul_eq_mul_right hd ?_
  rw[h];grind
 subst hx
 have hk:0<k:=Nat.pos_of_mul_pos_left h0
 have hgk:Nat.gcd (n*k) (d*k)=k:=by rw[Nat.gcd_mul_right,hg,Nat.one_mul]
 unfold exF
 rw[hgk,Nat.mul_div_cancel _ hk,Nat.mul_div_cancel _ hk,if_pos ⟨h1,h2⟩]
theorem addF_of{n1 d1 n2 d2:Nat}(h1:chkF (ofN n1) (ofN d1)=true)(h2:chkF (ofN n2) (ofN d2)=true):addF (ofN n1) (ofN d1) (ofN n2) (ofN d2)=exF (n1*d2+n2*d1) (d1*d2):=by
 unfold addF;rw[h1,h2,Bool.and_self,if_pos rfl,valN_ofN,valN_ofN,valN_ofN,valN_ofN]
end Go.Proofs.Ytjapnklocibgaaa.Sx
namespace Go.Proofs
open Go.Shelf
end Go.Proofs
