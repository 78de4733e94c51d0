/- Part 27 of the texts of this claim: a symbolic executor and contracts of functions. -/
import Derived.Test.YtoblkpomikokhaaGreatGqGRP1
import Derived.Test.YtoblkpomikokhaaGreatGqGRCSub
import Derived.Test.YtoblkpomikokhaaGreatGqGRCPar
namespace Go.Proofs.YtoblkpomikokhaaGreat.Sx
open Go Go.RowKit
set_option linter.unusedVariables false
set_option linter.unusedSimpArgs false
set_option maxRecDepth 100000
set_option maxHeartbeats 8000000
attribute [local congr] fin_congr finG_congr stepG_congr step1_congr runOps_congr brv_congr obl_congr condK_congr LoopK_congr seqK_congr CutK_congr vc_congr DrawK_congr regK_congr CallK_congr AskK_congr newK_congr retC_congr ret1_congr retK_congr outV_congr closeK_congr genR_congr appR_congr finD_congr finGD_congr stepGD_congr stepD_congr CallK0_congr runD_congr okR_congr CallS_congr vcX_congr
attribute [local congr] Stop_congr
section
variable {M:Mem}{K:AV→Hp→Mem→Prop}
theorem compare_ok(m1 m2:Bst)(u1 u2:Value)(l1 l2:List Bst)(h1:IsL M sbV u1 l1)(h2:IsL M sbV u2 l2)(hb:l1.length<4000000000000000000)(hb2:l2.length<4000000000000000000)(hK:K (.ext (.int .i64 (cmpG (m1,l1) (m2,l2)))) [] M) :
  CallS Tryz.prog 21 [.ext (.agg #[.string (bs m1),u1]),.ext (.agg #[.string (bs m2),u2])] [] M [] K:=by
 refine inlS (cs:=[]) Tryz.mixed Tryz.func21 rfl (by kernel_rfl) 0 rfl rfl ?_
 simp only[Tryz.f21]
 (replace hb0:=true_and True);refine Go1.mk ?_;repeat' ((first|(with_reducible refine Go1.go ?_)|((with_reducible first|refine brv_mk ?_ ?_|refine gsplitD ?_ ?_|refine gsplitG ?_ ?_)<;>intro h<;>(try simp only[Bool.not_eq_true',Bool.not_eq_false']at h)<;>replace hb0:=h)|(((with_reducible refine isCall0 (f:=37) ?_);refine callA0_nil (by kernel_rfl) ?_;refine (cmpS_ok m1 m2 ?_)))|(((with_reducible refine isCall0 (f:=38) ?_);refine callA0_nil (by kernel_rfl) ?_;refine (slCmp_ok u1 u2 l1 l2 h1 h2 hb hb2 ?_)))|((with_reducible refine isCall0 (f:=36) ?_);refine callA0 ?_)|((with_reducible refine isCallS (f:=36) ?_);refine (or_ok 15 _ _ _ ?_))|((with_reducible refine isDraw [some 5,some 6,some 7,some 8,some 9,some 10,some 11,some 12,some 13,some 14,some 15,some 16,some 4] (by decide) ?_);refine draw_rule [(0,[]),(1,[]),(2,[1]),(3,[1]),(5,[1,3]),(6,[1,3]),(7,[1,3,6]),(8,[1,3,6]),(4,[6,8]),(9,[]),(10,[]),(11,[]),(12,[])] [[],[0],[],[2],[0,1,2,3],[],[5],[],[7],[0,1,2,3,4,5,6,7,8],[0,1,2,3,4,5,6,7,8,9],[0,1,2,3,4,5,6,7,8,9,10],[0,1,2,3,4,5,6,7,8,9,10,11]] [5,6,7,8,9,10,11,12,13] [] (by kernel_rfl) (by kernel_rfl) (by kernel_rfl) (by kernel_rfl) (by exact trivial) ?_)|(refine And.intro ?_ ?_;(try simp only[sxO]at *);omega)|fail)<;>(try simp (maxSteps:=1000000) only [hb0,h1.one,h2.one,hasK_nil,bs_mk,bs_app,bs_ext,bs_size,bs_toList,bs_at,bs_cells,List.take_length,imp_ga,guard_pk,guard_pk2,↓hold_pre,awayP,runOps,regK,step1,newK,genR,appR,obl,buildR,Value.cells,closeK,keepH,outV,retK,ret1,retC,RetV,Option.getD,runD,stepD,afterK,undef,simprocAttr,sxB,↓sxD,sxE,sxTab]))
 exact hK
def rcSt(M:Mem)(u1 u2:Value)(m1 m2:Bst)(i:Nat):St:={env:=[(6,.ext (.int .i64 (i:Int))),(4,.ext (.int .i64 0)),(3,.own 3 0),(2,.own 2 0)],hp:=[(3,41,[.ext (.string (bs m2)),.ext u2]),(2,41,[.ext (.string (bs m1)),.ext u1])],M:=M,kb:=0,fx:=[]}
theorem refCompare_ok(m1 m2:Bst)(u1 u2:Value)(l1 l2:List Bst)(h1:IsL M sbV u1 l1)(h2:IsL M sbV u2 l2)(hb:l1.length<4000000000000000000)(hb2:l2.length<4000000000000000000)(hK:K (.ext (.int .i64 (cmpG (m1,l1) (m2,l2)))) [] M) :
  CallS Tryz.prog 48 [.ext (.agg #[.string (bs m1),u1]),.ext (.agg #[.string (bs m2),u2])] [] M [] K:=by
 refine inlS (cs:=[]) Tryz.mixed Tryz.func48 rfl (by kernel_rfl) 0 rfl rfl ?_
 simp only[Tryz.f48]
 have hg:cmpG (m1,l1) (m2,l2)=if cmpS m1 m2=0 then cmpL l1 l2 else cmpS m1 m2:=rfl
 rw[hg]at hK
 by_cases e0:cmpS m1 m2=0
 ·rw[if_pos e0]at hK
  (replace hb0:=true_and True);refine Go1.mk ?_;repeat' ((first|(with_reducible refine Go1.go ?_)|((with_reducible first|refine brv_mk ?_ ?_|refine gsplitD ?_ ?_|refine gsplitG ?_ ?_)<;>intro h<;>(try simp only[Bool.not_eq_true',Bool.not_eq_false']at h)<;>replace hb0:=h)|((first|((with_reducible refine isCall (f:=68) ?_);refine callA_nil (by kernel_rfl) ?_)|((with_reducible refine isCall0 (f:=68) ?_);refine callA0_nil (by kernel_rfl) ?_));refine (strCmp_ok m1 m2 ?_))|((with_reducible refine isDraw [some 30,some 31,some 32,some 33,some 34,some 35,some 36,some 37,some 38,some 39,some 40,some 7] (by decide) ?_);refine draw_rule [(0,[]),(1,[]),(2,[1]),(3,[]),(4,[]),(5,[1,4]),(6,[1,4]),(7,[1,4,6]),(8,[1,4]),(9,[1,4]),(10,[]),(11,[])] [[],[0],[],[0,1,2],[0,1,2,3],[],[5],[],[5,6,7],[5,6,7,8],[0,1,2,3,4,5,6,7,8,9],[0,1,2,3,4,5,6,7,8,9,10]] [30,31,32,33,34,35,36,37,38,39] [] (by kernel_rfl) (by kernel_rfl) (by kernel_rfl) (by kernel_rfl) (by exact trivial) ?_)|(refine And.intro ?_ ?_;(try simp only[sxO]at *);omega)|fail)<;>(try simp (maxSteps:=1000000) only [hb0,e0,h1.one,h2.one,hasK_nil,bs_mk,bs_app,bs_ext,bs_size,bs_toList,bs_at,bs_cells,List.take_length,imp_ga,guard_pk,guard_pk2,↓hold_pre,awayP,runOps,regK,step1,newK,genR,appR,obl,buildR,Value.cells,closeK,keepH,outV,retK,ret1,retC,RetV,Option.getD,runD,stepD,afterK,undef,simprocAttr,sxB,↓sxD,sxE,sxTab]))
  refine ⟨fun d z=>∃i,i≤l1.length∧i≤l2.length∧cmpL l1 l2=lexL cmpS (l1.drop i) (l2.drop i)∧d=l1.length-i∧z=rcSt M u1 u2 m1 m2 i,⟨l1.length,rcSt M u1 u2 m1 m2 0,le_sub ⟨rfl,rfl,rfl,rfl,trivial⟩ ⟨rfl,rfl,trivial⟩ rfl rfl rfl (keepLt0 _),⟨0,by omega,by omega,rfl,rfl,rfl⟩⟩,?_⟩
  rintro d z ⟨i,hi1,hi2,hrel,rfl,rfl⟩
  rw[hrel]at hK
  by_cases hlt:i<l1.length
  ·have f1:=h1.idx (P:=Tryz.prog) (T:=9) tk9 tz9 (by omega) hlt
   by_cases hlt2:i<l2.length
   ·have f2:=h2.idx (P:=Tryz.prog) (T:=9) tk9 tz9 (by omega) hlt2
    rw[lexL_drop cmpS hlt hlt2]at hK
    by_cases hz:cmpS l1[i] l2[i]=0
    ·rw[if_pos hz]at hK
     (replace hb0:=true_and True);refine Go1.mk ?_;repeat' ((first|(with_reducible refine Go1.go ?_)|((with_reducible first|refine brv_mk ?_ ?_|refine gsplitD ?_ ?_|refine gsplitG ?_ ?_)<;>intro h<;>(try simp only[Bool.not_eq_true',Bool.not_eq_false']at h)<;>replace hb0:=h)|((first|((with_reducible refine isCall (f:=68) ?_);refine callA_nil (by kernel_rfl) ?_)|((with_reducible refine isCall0 (f:=68) ?_);refine callA0_nil (by kernel_rfl) ?_));refine (strCmp_ok l1[i] l2[i] ?_))|((with_reducible refine isDraw [some 30,some 31,some 32,some 33,some 34,some 35,some 36,some 37,some 38,some 39,some 40,some 7] (by decide) ?_);refine draw_rule [(0,[]),(1,[]),(2,[1]),(3,[]),(4,[]),(5,[1,4]),(6,[1,4]),(7,[1,4,6]),(8,[1,4]),(9,[1,4]),(10,[]),(11,[])] [[],[0],[],[0,1,2],[0,1,2,3],[],[5],[],[5,6,7],[5,6,7,8],[0,1,2,3,4,5,6,7,8,9],[0,1,2,3,4,5,6,7,8,9,10]] [30,31,32,33,34,35,36,37,38,39] [] (by kernel_rfl) (by kernel_rfl) (by kernel_rfl) (by kernel_rfl) (by exact trivial) ?_)|(refine And.intro ?_ ?_;(try simp only[sxO]at *);omega)|fail)<;>(try simp (maxSteps:=1000000) only [hb0,rcSt,f1,f2,sbV,hz,h1.one,h2.one,hasK_nil,bs_mk,bs_app,bs_ext,bs_size,bs_toList,bs_at,bs_cells,List.take_length,imp_ga,guard_pk,guard_pk2,↓hold_pre,awayP,runOps,regK,step1,newK,genR,appR,obl,buildR,Value.cells,closeK,keepH,outV,retK,ret1,retC,RetV,Option.getD,runD,stepD,afterK,undef,simprocAttr,sxB,↓sxD,sxE,sxTab]))
     exact ⟨l1.length-(i+1),rcSt M u1 u2 m1 m2 (i+1),by omega,le_sub ⟨rfl,rfl,rfl,rfl,trivial⟩ ⟨rfl,rfl,trivial⟩ rfl rfl rfl (keepLt0 _),i+1,by omega,by omega,by rw[hrel,lexL_drop cmpS hlt hlt2,if_pos hz],rfl,rfl⟩
    ·rw[if_neg hz]at hK
     have dz:decide (cmpS l1[i] l2[i]=0)=false:=by simp[hz]
     (replace hb0:=true_and True);refine Go1.mk ?_;repeat' ((first|(with_reducible refine Go1.go ?_)|((with_reducible first|refine brv_mk ?_ ?_|refine gsplitD ?_ ?_|refine gsplitG ?_ ?_)<;>intro h<;>(try simp only[Bool.not_eq_true',Bool.not_eq_false']at h)<;>replace hb0:=h)|((first|((with_reducible refine isCall (f:=68) ?_);refine callA_nil (by kernel_rfl) ?_)|((with_reducible refine isCall0 (f:=68) ?_);refine callA0_nil (by kernel_rfl) ?_));refine (strCmp_ok l1[i] l2[i] ?_))|((with_reducible refine isDraw [some 30,some 31,some 32,some 33,some 34,some 35,some 36,some 37,some 38,some 39,some 40,some 7] (by decide) ?_);refine draw_rule [(0,[]),(1,[]),(2,[1]),(3,[]),(4,[]),(5,[1,4]),(6,[1,4]),(7,[1,4,6]),(8,[1,4]),(9,[1,4]),(10,[]),(11,[])] [[],[0],[],[0,1,2],[0,1,2,3],[],[5],[],[5,6,7],[5,6,7,8],[0,1,2,3,4,5,6,7,8,9],[0,1,2,3,4,5,6,7,8,9,10]] [30,31,32,33,34,35,36,37,38,39] [] (by kernel_rfl) (by kernel_rfl) (by kernel_rfl) (by kernel_rfl) (by exact trivial) ?_)|(refine And.intro ?_ ?_;(try simp only[sxO]at *);omega)|fail)<;>(try simp (maxSteps:=1000000) only [hb0,rcSt,f1,f2,sbV,dz,h1.one,h2.one,hasK_nil,bs_mk,bs_app,bs_ext,bs_size,bs_toList,bs_at,bs_cells,List.take_length,imp_ga,guard_pk,guard_pk2,↓hold_pre,awayP,runOps,regK,step1,newK,genR,appR,obl,buildR,Value.cells,closeK,keepH,outV,retK,ret1,retC,RetV,Option.getD,runD,stepD,afterK,undef,simprocAttr,sxB,↓sxD,sxE,sxTab]))
     exact hK
   ·obtain rfl:i=l2.length:=by omega
    have d2:decide ((l2.length:Int)<(l2.length:Int))=false:=by simp
    have d3:decide ((l1.length:Int)<(l2.length:Int))=false:=by simp;omega
    have d4:decide ((l2.length:Int)<(l1.length:Int))=true:=by simp;omega
    have e:lexL cmpS (l1.drop l2.length) (l2.drop l2.length)=1:=by
     rw[List.drop_eq_getElem_cons hlt,List.drop_length];rfl
    rw[e]at hK
    (replace hb0:=true_and True);refine Go1.mk ?_;repeat' ((first|(with_reducible refine Go1.go ?_)|((with_reducible first|refine brv_mk ?_ ?_|refine gsplitD ?_ ?_|refine gsplitG ?_ ?_)<;>intro h<;>(try simp only[Bool.not_eq_true',Bool.not_eq_false']at h)<;>replace hb0:=h)|((with_reducible refine isDraw [some 30,some 31,some 32,some 33,some 34,some 35,some 36,some 37,some 38,some 39,some 40,some 7] (by decide) ?_);refine draw_rule [(0,[]),(1,[]),(2,[1]),(3,[]),(4,[]),(5,[1,4]),(6,[1,4]),(7,[1,4,6]),(8,[1,4]),(9,[1,4]),(10,[]),(11,[])] [[],[0],[],[0,1,2],[0,1,2,3],[],[5],[],[5,6,7],[5,6,7,8],[0,1,2,3,4,5,6,7,8,9],[0,1,2,3,4,5,6,7,8,9,10]] [30,31,32,33,34,35,36,37,38,39] [] (by kernel_rfl) (by kernel_rfl) (by kernel_rfl) (by kernel_rfl) (by exact trivial) ?_)|(refine And.intro ?_ ?_;(try simp only[sxO]at *);omega)|fail)<;>(try simp (maxSteps:=1000000) only [hb0,rcSt,f1,d2,d3,d4,h2.len,h2.sl,h1.one,h2.one,hasK_nil,bs_mk,bs_app,bs_ext,bs_size,bs_toList,bs_at,bs_cells,List.take_length,imp_ga,guard_pk,guard_pk2,↓hold_pre,awayP,runOps,regK,step1,newK,genR,appR,obl,buildR,Value.cells,closeK,keepH,outV,retK,ret1,retC,RetV,Option.getD,runD,stepD,afterK,undef,simprocAttr,sxB,↓sxD,sxE,sxTab]))
    exact hK
  ·obtain rfl:i=l1.length:=by omega
   have d1:decide ((l1.length:Int)<(l1.length:Int))=false:=by simp
   by_cases hlt2:l1.length<l2.length
   ·have d2:decide ((l1.length:Int)<(l2.length:Int))=true:=by simp;omega
    have e:lexL cmpS (l1.drop l1.length) (l2.drop l1.length)=-1:=by
     rw[List.drop_eq_getElem_cons hlt2,List.drop_length];rfl
    rw[e]at hK
    (replace hb0:=true_and True);refine Go1.mk ?_;repeat' ((first|(with_reducible refine Go1.go ?_)|((with_reducible first|refine brv_mk ?_ ?_|refine gsplitD ?_ ?_|refine gsplitG ?_ ?_)<;>intro h<;>(try simp only[Bool.not_eq_true',Bool.not_eq_false']at h)<;>replace hb0:=h)|((with_reducible refine isDraw [some 30,some 31,some 32,some 33,some 34,some 35,some 36,some 37,some 38,some 39,some 40,some 7] (by decide) ?_);refine draw_rule [(0,[]),(1,[]),(2,[1]),(3,[]),(4,[]),(5,[1,4]),(6,[1,4]),(7,[1,4,6]),(8,[1,4]),(9,[1,4]),(10,[]),(11,[])] [[],[0],[],[0,1,2],[0,1,2,3],[],[5],[],[5,6,7],[5,6,7,8],[0,1,2,3,4,5,6,7,8,9],[0,1,2,3,4,5,6,7,8,9,10]] [30,31,32,33,34,35,36,37,38,39] [] (by kernel_rfl) (by kernel_rfl) (by kernel_rfl) (by kernel_rfl) (by exact trivial) ?_)|(refine And.intro ?_ ?_;(try simp only[sxO]at *);omega)|fail)<;>(try simp (maxSteps:=1000000) only [hb0,rcSt,d1,d2,h1.len,h1.sl,h2.len,h2.sl,h1.one,h2.one,hasK_nil,bs_mk,bs_app,bs_ext,bs_size,bs_toList,bs_at,bs_cells,List.take_length,imp_ga,guard_pk,guard_pk2,↓hold_pre,awayP,runOps,regK,step1,newK,genR,appR,obl,buildR,Value.cells,closeK,keepH,outV,retK,ret1,retC,RetV,Option.getD,runD,stepD,afterK,undef,simprocAttr,sxB,↓sxD,sxE,sxTab]))
    exact hK
   ·have d2:decide ((l1.length:Int)<(l2.length:Int))=false:=by simp;omega
    have d3:decide ((l2.length:Int)<(l1.length:Int))=false:=by simp;omega
    have e:lexL cmpS (l1.drop l1.length) (l2.drop l1.length)=0:=by
     rw[List.drop_length,List.drop_eq_nil_of_le (by omega)];rfl
    rw[e]at hK
    (replace hb0:=true_and True);refine Go1.mk ?_;repeat' ((first|(with_reducible refine Go1.go ?_)|((with_reducible first|refine brv_mk ?_ ?_|refine gsplitD ?_ ?_|refine gsplitG ?_ ?_)<;>intro h<;>(try simp only[Bool.not_eq_true',Bool.not_eq_false']at h)<;>replace hb0:=h)|((with_reducible refine isDraw [some 30,some 31,some 32,some 33,some 34,some 35,some 36,some 37,some 38,some 39,some 40,some 7] (by decide) ?_);refine draw_rule [(0,[]),(1,[]),(2,[1]),(3,[]),(4,[]),(5,[1,4]),(6,[1,4]),(7,[1,4,6]),(8,[1,4]),(9,[1,4]),(10,[]),(11,[])] [[],[0],[],[0,1,2],[0,1,2,3],[],[5],[],[5,6,7],[5,6,7,8],[0,1,2,3,4,5,6,7,8,9],[0,1,2,3,4,5,6,7,8,9,10]] [30,31,32,33,34,35,36,37,38,39] [] (by kernel_rfl) (by kernel_rfl) (by kernel_rfl) (by kernel_rfl) (by exact trivial) ?_)|(refine And.intro ?_ ?_;(try simp only[sxO]at *);omega)|fail)<;>(try simp (maxSteps:=1000000) only [hb0,rcSt,d1,d2,d3,h1.len,h1.sl,h2.len,h2.sl,h1.one,h2.one,hasK_nil,bs_mk,bs_app,bs_ext,bs_size,bs_toList,bs_at,bs_cells,List.take_length,imp_ga,guard_pk,guard_pk2,↓hold_pre,awayP,runOps,regK,step1,newK,genR,appR,obl,buildR,Value.cells,closeK,keepH,outV,retK,ret1,retC,RetV,Option.getD,runD,stepD,afterK,undef,simprocAttr,sxB,↓sxD,sxE,sxTab]))
    exact hK
 ·rw[if_neg e0]at hK
  have d0:decide (cmpS m1 m2=0)=false:=by simp[e0]
  (replace hb0:=true_and True);refine Go1.mk ?_;repeat' ((first|(with_reducible refine Go1.go ?_)|((with_reducible first|refine brv_mk ?_ ?_|refine gsplitD ?_ ?_|refine gsplitG ?_ ?_)<;>intro h<;>(try simp only[Bool.not_eq_true',Bool.not_eq_false']at h)<;>replace hb0:=h)|((first|((with_reducible refine isCall (f:=68) ?_);refine callA_nil (by kernel_rfl) ?_)|((with_reducible refine isCall0 (f:=68) ?_);refine callA0_nil (by kernel_rfl) ?_));refine (strCmp_ok m1 m2 ?_))|((with_reducible refine isDraw [some 30,some 31,some 32,some 33,some 34,some 35,some 36,some 37,some 38,some 39,some 40,some 7] (by decide) ?_);refine draw_rule [(0,[]),(1,[]),(2,[1]),(3,[]),(4,[]),(5,[1,4]),(6,[1,4]),(7,[1,4,6]),(8,[1,4]),(9,[1,4]),(10,[]),(11,[])] [[],[0],[],[0,1,2],[0,1,2,3],[],[5],[],[5,6,7],[5,6,7,8],[0,1,2,3,4,5,6,7,8,9],[0,1,2,3,4,5,6,7,8,9,10]] [30,31,32,33,34,35,36,37,38,39] [] (by kernel_rfl) (by kernel_rfl) (by kernel_rfl) (by kernel_rfl) (by exact trivial) ?_)|(refine And.intro ?_ ?_;(try simp only[sxO]at *);omega)|fail)<;>(try simp (maxSteps:=1000000) only [hb0,d0,h1.one,h2.one,hasK_nil,bs_mk,bs_app,bs_ext,bs_size,bs_toList,bs_at,bs_cells,List.take_length,imp_ga,guard_pk,guard_pk2,↓hold_pre,awayP,runOps,regK,step1,newK,genR,appR,obl,buildR,Value.cells,closeK,keepH,outV,retK,ret1,retC,RetV,Option.getD,runD,stepD,afterK,undef,simprocAttr,sxB,↓sxD,sxE,sxTab]))
  exact hK
end
theorem twi_iff{α:Type}[DecidableEq α]{l:List α}{k:Nat}(h:2*k≤l.length):twiB l k=true↔∀j,j<k→l[l.length-1-j]? = l[l.length-1-k-j]?:=by
 unfold twiB
 simp only[h,decide_true,Bool.true_and,decide_eq_true_eq]
 constructor
 ·intro e j hj
  have:=congrArg (fun x=>x[k-1-j]?) e
  simp only[List.getElem?_drop,List.getElem?_take_of_lt (show k-1-j<k by omega)]at this
  rw[show l.length-k+(k-1-j)=l.length-1-j by omega,show l.length-2*k+(k-1-j)=l.length-1-k-j by omega]at this
  exact this
 ·intro e
  apply List.ext_getElem?
  intro j
  by_cases hj:j<k
  ·have:=e (k-1-j) (by omega)
   rw[List.getElem?_drop,List.getElem?_take_of_lt hj,List.getElem?_drop,show l.length-k+j=l.length-1-(k-1-j) by omega,show l.length-2*k+j=l.length-1-k-(k-1-j) by omega]
   exact this
  ·rw[List.getElem?_eq_none (by rw[List.length_drop];omega),List.getElem?_eq_none (by rw[List.length_take];omega)]
section
variable {M:Mem}{K:AV→Hp→Mem→Prop}
def tcSt(M:Mem)(u:Value)(k i:Nat):St:={env:=[(5,.ext (.int .i64 (i:Int))),(1,.ext (.int .i64 (k:Int))),(0,.ext u)],hp:=[],M:=M,kb:=0,fx:=[]}
theorem refTwice_ok(u:Value)(l:List Bst)(k:Nat)(hu:IsL M sbV u l)(hb:l.length<1000000000)(hk1:1≤k)(hk4:k≤4)(hK:K (.ext (.bool (twiB l k))) [] M):CallS Tryz.prog 85 [.ext u,.ext (.int .i64 (k:Int))] [] M [] K:=by
 refine inlS (cs:=[]) Tryz.mixed Tryz.func85 rfl (by kernel_rfl) 0 rfl rfl ?_
 simp only[Tryz.f85]
 have w1:IntKind.i64.wrap (2*(k:Int))=((2*k:Nat):Int):=by rw[wrap_id (by omega) (by omega)];omega
 by_cases hlt:l.length<2*k
 ·have d1:decide ((l.length:Int)<((2*k:Nat):Int))=true:=by simp;omega
  have e:twiB l k=false:=by
   cases h:twiB l k with
   | false=>rfl
   | true=>have:=twi_le h;omega
  rw[e]at hK
  (replace hb0:=true_and True);refine Go1.mk ?_;repeat' ((first|(with_reducible refine Go1.go ?_)|((with_reducible first|refine brv_mk ?_ ?_|refine gsplitD ?_ ?_|refine gsplitG ?_ ?_)<;>intro h<;>(try simp only[Bool.not_eq_true',Bool.not_eq_false']at h)<;>replace hb0:=h)|((with_reducible refine isDraw [some 16,some 17,some 18,some 19,some 20,some 21,some 22,some 23,some 24,some 25,some 26,some 27,some 28,some 29,some 30,some 31,some 32,some 33,some 34] (by decide) ?_);refine draw_rule [(0,[]),(1,[]),(2,[]),(3,[]),(4,[]),(5,[]),(6,[]),(7,[]),(8,[7]),(9,[7]),(10,[7]),(11,[7]),(12,[7]),(13,[7]),(14,[7]),(15,[7]),(16,[7]),(17,[7]),(18,[])] [[],[],[1],[1,2],[],[1,2,3,4],[0,1,2,3,4,5],[0,1,2,3,4,5,6],[],[],[9],[9,10],[],[9,10,11,12],[],[9,10,11,12,13,14],[8,9,10,11,12,13,14,15],[8,9,10,11,12,13,14,15,16],[0,1,2,3,4,5,6,7,8,9,10,11,12,13,14,15,16,17]] [16,17,18,19,20,21,22,23,24,25,26,27,28,29,30,31,32,33] [] (by kernel_rfl) (by kernel_rfl) (by kernel_rfl) (by kernel_rfl) (by exact trivial) ?_)|(refine And.intro ?_ ?_;(try simp only[sxO]at *);omega)|fail)<;>(try simp (maxSteps:=1000000) only [hb0,hu.len,hu.sl,w1,d1,↓hold_pre,awayP,runOps,regK,step1,newK,genR,appR,obl,buildR,Value.cells,closeK,keepH,outV,retK,ret1,retC,RetV,Option.getD,runD,stepD,afterK,undef,simprocAttr,sxB,↓sxD,sxE,sxTab]))
  exact hK
 have hle:2*k≤l.length:=by omega
 have d1:decide ((l.length:Int)<((2*k:Nat):Int))=false:=by simp;omega
 (replace hb0:=true_and True);refine Go1.mk ?_;repeat' ((first|(with_reducible refine Go1.go ?_)|((with_reducible first|refine brv_mk ?_ ?_|refine gsplitD ?_ ?_|refine gsplitG ?_ ?_)<;>intro h<;>(try simp only[Bool.not_eq_true',Bool.not_eq_false']at h)<;>replace hb0:=h)|((with_reducible refine isDraw [some 16,some 17,some 18,some 19,some 20,some 21,some 22,some 23,some 24,some 25,some 26,some 27,some 28,some 29,some 30,some 31,some 32,some 33,some 34] (by decide) ?_);refine draw_rule [(0,[]),(1,[]),(2,[]),(3,[]),(4,[]),(5,[]),(6,[]),(7,[]),(8,[7]),(9,[7]),(10,[7]),(11,[7]),(12,[7]),(13,[7]),(14,[7]),(15,[7]),(16,[7]),(17,[7]),(18,[])] [[],[],[1],[1,2],[],[1,2,3,4],[0,1,2,3,4,5],[0,1,2,3,4,5,6],[],[],[9],[9,10],[],[9,10,11,12],[],[9,10,11,12,13,14],[8,9,10,11,12,13,14,15],[8,9,10,11,12,13,14,15,16],[0,1,2,3,4,5,6,7,8,9,10,11,12,13,14,15,16,17]] [16,17,18,19,20,21,22,23,24,25,26,27,28,29,30,31,32,33] [] (by kernel_rfl) (by kernel_rfl) (by kernel_rfl) (by kernel_rfl) (by exact trivial) ?_)|(refine And.intro ?_ ?_;(try simp only[sxO]at *);omega)|fail)<;>(try simp (maxSteps:=1000000) only [hb0,hu.len,hu.sl,w1,d1,↓hold_pre,awayP,runOps,regK,step1,newK,genR,appR,obl,buildR,Value.cells,closeK,keepH,outV,retK,ret1,retC,RetV,Option.getD,runD,stepD,afterK,undef,simprocAttr,sxB,↓sxD,sxE,sxTab]))
 refine ⟨fun m z=>∃i,i≤k∧(∀j,j<i→l[l.length-1-j]? = l[l.length-1-k-j]?)∧m=k-i∧z=tcSt M u k i,⟨k,tcSt M u k 0,le_sub ⟨rfl,rfl,rfl,trivial⟩ trivial rfl rfl rfl (keepLt0 _),⟨0,by omega,by omega,rfl,rfl⟩⟩,?_⟩
 rintro m z ⟨i,hi,hpre,rfl,rfl⟩
 by_cases hik:i<k
 ·have d2:decide ((i:Int)<(k:Int))=true:=by simp;omega
  have v1:IntKind.i64.wrap ((l.length:Int)-1)=((l.length-1:Nat):Int):=by rw[wrap_id (by omega) (by omega)];omega
  have v2:IntKind.i64.wrap (((l.length-1:Nat):Int)-(i:Int))=((l.length-1-i:Nat):Int):=by rw[wrap_id (by omega) (by omega)];omega
  have v3:IntKind.i64.wrap (((l.length-1:Nat):Int)-(k:Int))=((l.length-1-k:Nat):Int):=by rw[wrap_id (by omega) (by omega)];omega
  have v4:IntKind.i64.wrap (((l.length-1-k:Nat):Int)-(i:Int))=((l.length-1-k-i:Nat):Int):=by rw[wrap_id (by omega) (by omega)];omega
  have wi:IntKind.i64.wrap ((i:Int)+1)=((i+1:Nat):Int):=by rw[wrap_id (by omega) (by omega)];omega
  have h1:l.length-1-i<l.length:=by omega
  have h2:l.length-1-k-i<l.length:=by omega
  have f1:=hu.idx (P:=Tryz.prog) (T:=9) tk9 tz9 (by omega) h1
  have f2:=hu.idx (P:=Tryz.prog) (T:=9) tk9 tz9 (by omega) h2
  by_cases he:l[l.length-1-i]=l[l.length-1-k-i]
  ·have c1:(l[l.length-1-i]==l[l.length-1-k-i])=true:=by simp[he]
   (replace hb0:=true_and True);refine Go1.mk ?_;repeat' ((first|(with_reducible refine Go1.go ?_)|((with_reducible first|refine brv_mk ?_ ?_|refine gsplitD ?_ ?_|refine gsplitG ?_ ?_)<;>intro h<;>(try simp only[Bool.not_eq_true',Bool.not_eq_false']at h)<;>replace hb0:=h)|((with_reducible refine isDraw [some 16,some 17,some 18,some 19,some 20,some 21,some 22,some 23,some 24,some 25,some 26,some 27,some 28,some 29,some 30,some 31,some 32,some 33,some 34] (by decide) ?_);refine draw_rule [(0,[]),(1,[]),(2,[]),(3,[]),(4,[]),(5,[]),(6,[]),(7,[]),(8,[7]),(9,[7]),(10,[7]),(11,[7]),(12,[7]),(13,[7]),(14,[7]),(15,[7]),(16,[7]),(17,[7]),(18,[])] [[],[],[1],[1,2],[],[1,2,3,4],[0,1,2,3,4,5],[0,1,2,3,4,5,6],[],[],[9],[9,10],[],[9,10,11,12],[],[9,10,11,12,13,14],[8,9,10,11,12,13,14,15],[8,9,10,11,12,13,14,15,16],[0,1,2,3,4,5,6,7,8,9,10,11,12,13,14,15,16,17]] [16,17,18,19,20,21,22,23,24,25,26,27,28,29,30,31,32,33] [] (by kernel_rfl) (by kernel_rfl) (by kernel_rfl) (by kernel_rfl) (by exact trivial) ?_)|(refine And.intro ?_ ?_;(try simp only[sxO]at *);omega)|fail)<;>(try simp (maxSteps:=1000000) only [hb0,tcSt,d2,v1,v2,v3,v4,wi,f1,f2,c1,sbV,bs_mk,bs_app,bs_ext,bs_size,bs_toList,bs_at,bs_cells,List.take_length,imp_ga,guard_pk,guard_pk2,↓hold_pre,awayP,runOps,regK,step1,newK,genR,appR,obl,buildR,Value.cells,closeK,keepH,outV,retK,ret1,retC,RetV,Option.getD,runD,stepD,afterK,undef,simprocAttr,sxB,↓sxD,sxE,sxTab]))
   refine ⟨k-(i+1),tcSt M u k (i+1),by omega,le_sub ⟨rfl,rfl,rfl,trivial⟩ trivial rfl rfl rfl (keepLt0 _),i+1,by omega,fun j hj=>?_,rfl,rfl⟩
   by_cases e:j=i
   ·subst e;rw[List.getElem?_eq_getElem h1,List.getElem?_eq_getElem h2,he]
   ·exact hpre j (by omega)
  ·have c1:(l[l.length-1-i]==l[l.length-1-k-i])=false:=by simpa using he
   have e:twiB l k=false:=by
    cases h:twiB l k with
    | false=>rfl
    | true=>
     have:=(twi_iff hle).1 h i hik
     rw[List.getElem?_eq_getElem h1,List.getElem?_eq_getElem h2]at this
     exact absurd (Option.some.inj this) he
   rw[e]at hK
   (replace hb0:=true_and True);refine Go1.mk ?_;repeat' ((first|(with_reducible refine Go1.go ?_)|((with_reducible first|refine brv_mk ?_ ?_|refine gsplitD ?_ ?_|refine gsplitG ?_ ?_)<;>intro h<;>(try simp only[Bool.not_eq_true',Bool.not_eq_false']at h)<;>replace hb0:=h)|((with_reducible refine isDraw [some 16,some 17,some 18,some 19,some 20,some 21,some 22,some 23,some 24,some 25,some 26,some 27,some 28,some 29,some 30,some 31,some 32,some 33,some 34] (by decide) ?_);refine draw_rule [(0,[]),(1,[]),(2,[]),(3,[]),(4,[]),(5,[]),(6,[]),(7,[]),(8,[7]),(9,[7]),(10,[7]),(11,[7]),(12,[7]),(13,[7]),(14,[7]),(15,[7]),(16,[7]),(17,[7]),(18,[])] [[],[],[1],[1,2],[],[1,2,3,4],[0,1,2,3,4,5],[0,1,2,3,4,5,6],[],[],[9],[9,10],[],[9,10,11,12],[],[9,10,11,12,13,14],[8,9,10,11,12,13,14,15],[8,9,10,11,12,13,14,15,16],[0,1,2,3,4,5,6,7,8,9,10,11,12,13,14,15,16,17]] [16,17,18,19,20,21,22,23,24,25,26,27,28,29,30,31,32,33] [] (by kernel_rfl) (by kernel_rfl) (by kernel_rfl) (by kernel_rfl) (by exact trivial) ?_)|(refine And.intro ?_ ?_;(try simp only[sxO]at *);omega)|fail)<;>(try simp (maxSteps:=1000000) only [hb0,tcSt,d2,v1,v2,v3,v4,wi,f1,f2,c1,sbV,bs_mk,bs_app,bs_ext,bs_size,bs_toList,bs_at,bs_cells,List.take_length,imp_ga,guard_pk,guard_pk2,↓hold_pre,awayP,runOps,regK,step1,newK,genR,appR,obl,buildR,Value.cells,closeK,keepH,outV,retK,ret1,retC,RetV,Option.getD,runD,stepD,afterK,undef,simprocAttr,sxB,↓sxD,sxE,sxTab]))
   exact hK
 ·obtain rfl:i=k:=by omega
  have d2:decide ((i:Int)<(i:Int))=false:=by simp
  have e:twiB l i=true:=(twi_iff hle).2 hpre
  rw[e]at hK
  (replace hb0:=true_and True);refine Go1.mk ?_;repeat' ((first|(with_reducible refine Go1.go ?_)|((with_reducible first|refine brv_mk ?_ ?_|refine gsplitD ?_ ?_|refine gsplitG ?_ ?_)<;>intro h<;>(try simp only[Bool.not_eq_true',Bool.not_eq_false']at h)<;>replace hb0:=h)|((with_reducible refine isDraw [some 16,some 17,some 18,some 19,some 20,some 21,some 22,some 23,some 24,some 25,some 26,some 27,some 28,some 29,some 30,some 31,some 32,some 33,some 34] (by decide) ?_);refine draw_rule [(0,[]),(1,[]),(2,[]),(3,[]),(4,[]),(5,[]),(6,[]),(7,[]),(8,[7]),(9,[7]),(10,[7]),(11,[7]),(12,[7]),(13,[7]),(14,[7]),(15,[7]),(16,[7]),(17,[7]),(18,[])] [[],[],[1],[1,2],[],[1,2,3,4],[0,1,2,3,4,5],[0,1,2,3,4,5,6],[],[],[9],[9,10],[],[9,10,11,12],[],[9,10,11,12,13,14],[8,9,10,11,12,13,14,15],[8,9,10,11,12,13,14,15,16],[0,1,2,3,4,5,6,7,8,9,10,11,12,13,14,15,16,17]] [16,17,18,19,20,21,22,23,24,25,26,27,28,29,30,31,32,33] [] (by kernel_rfl) (by kernel_rfl) (by kernel_rfl) (by kernel_rfl) (by exact trivial) ?_)|(refine And.intro ?_ ?_;(try simp only[sxO]at *);omega)|fail)<;>(try simp (maxSteps:=1000000) only [hb0,tcSt,d2,↓hold_pre,awayP,runOps,regK,step1,newK,genR,appR,obl,buildR,Value.cells,closeK,keepH,outV,retK,ret1,retC,RetV,Option.getD,runD,stepD,afterK,undef,simprocAttr,sxB,↓sxD,sxE,sxTab]))
  exact hK
theorem refTwice_bor{k n q:Nat}{T:TypeId}{L:List Bst}(hn:n=L.length)(hb:L.length<1000000000)(hq:1≤q)(hq4:q≤4)(hK:K (.ext (.bool (twiB L q))) [(k,T,cE sbV L)] M):CallS Tryz.prog 85 [.slo k 0 n 1,.ext (.int .i64 (q:Int))] [(k,T,cE sbV L)] M [] K:=by
 refine CallS.bor (by exact ⟨⟨L.map sbV,rfl⟩,trivial⟩) fun us M' hM hb'=>?_
 obtain ⟨u1,_,rfl,hu1,u2,_,rfl,rfl,rfl⟩:=hb'
 exact refTwice_ok u1 L q (hu1.isL (T:=T) (by simp[lkH]) hn) hb hq hq4 (BorK.same hK)
def rfoSt(M:Mem)(u:Value)(i:Nat)(o:List Bst):St:={env:=[(4,.ext (.int .i64 (i:Int))),(3,.slo 90 0 o.length 1),(0,.ext u)],hp:=[(90,9,cE sbV o)],M:=M,kb:=0,fx:=[]}
def rfkSt(M:Mem)(u:Value)(i:Nat)(o:List Bst)(k:Nat):St:={env:=[(5,.ext (.int .i64 (k:Int))),(4,.ext (.int .i64 (i:Int))),(3,.slo 90 0 o.length 1),(0,.ext u)],hp:=[(90,9,cE sbV o)],M:=M,kb:=0,fx:=[]}
theorem refFold_ok(u:Value)(l:List Bst)(hu:IsL M sbV u l)(hl:l.length<1000000)(hK:∀u' M',Mem.le M M'→IsL M' sbV u' (foldB l)→FreshS M u'→K (.ext u') [] M'):CallS Tryz.prog 73 [.ext u] [] M [] K:=by
 refine CallS.frzF ?_
 refine inlS (cs:=[]) Tryz.mixed Tryz.func73 rfl (by kernel_rfl) 0 rfl rfl ?_
 simp only[Tryz.f73]
 (replace hb0:=true_and True);refine Go1.mk ?_;repeat' ((first|(with_reducible refine Go1.go ?_)|((with_reducible first|refine brv_mk ?_ ?_|refine gsplitD ?_ ?_|refine gsplitG ?_ ?_)<;>intro h<;>(try simp only[Bool.not_eq_true',Bool.not_eq_false']at h)<;>replace hb0:=h)|(refine And.intro ?_ ?_;(try simp only[sxO]at *);omega)|fail)<;>(try simp (maxSteps:=1000000) only [hb0,hu.len,hu.sl,↓hold_pre,awayP,runOps,regK,step1,newK,genR,appR,obl,buildR,Value.cells,closeK,keepH,outV,retK,ret1,retC,RetV,Option.getD,runD,stepD,afterK,undef,simprocAttr,sxB,↓sxD,sxE,sxTab]))
 refine ⟨fun m z=>∃i o,i≤l.length∧o=(l.take i).foldl fstep []∧o.length≤i∧m=l.length-i∧z=rfoSt M u i o,⟨l.length,rfoSt M u 0 [],(le_nil 3 90 9 1 rfl (.inl rfl)).trans (le_sub ⟨rfl,rfl,rfl,trivial⟩ ⟨rfl,trivial⟩ rfl rfl rfl (keepLt0 _)),⟨0,[],by omega,rfl,by simp,rfl,rfl⟩⟩,?_⟩
 rintro m z ⟨i,o,hi,ho,hol,rfl,rfl⟩
 by_cases hlt:i<l.length
 ·have f1:=hu.idx (P:=Tryz.prog) (T:=9) tk9 tz9 (by omega) hlt
  (replace hb0:=true_and True);refine Go1.mk ?_;repeat' ((first|(with_reducible refine Go1.go ?_)|((with_reducible first|refine brv_mk ?_ ?_|refine gsplitD ?_ ?_|refine gsplitG ?_ ?_)<;>intro h<;>(try simp only[Bool.not_eq_true',Bool.not_eq_false']at h)<;>replace hb0:=h)|(refine And.intro ?_ ?_;(try simp only[sxO]at *);omega)|fail)<;>(try simp (maxSteps:=1000000) only [hb0,rfoSt,f1,sbV,str_snoc,cE_ment,cE_len,hasK_nil,maxLen,Nat.mul_one,↓hold_pre,awayP,runOps,regK,step1,newK,genR,appR,obl,buildR,Value.cells,closeK,keepH,outV,retK,ret1,retC,RetV,Option.getD,runD,stepD,afterK,undef,simprocAttr,sxB,↓sxD,sxE,sxTab]))
  obtain ⟨o',ho'⟩:∃o',o++[l[i]]=o':=⟨_,rfl⟩
  have hlen':o'.length=o.length+1:=by rw[←ho'];simp
  rw[ho',←hlen']
  have hnext:(l.take (i+1)).foldl fstep []=fstep o l[i]:=by rw[List.take_succ_eq_append_getElem hlt,List.foldl_append,←ho];rfl
  refine ⟨fun m z=>∃k,1≤k∧k≤5∧(∀j,1≤j→j<k→twiB o' j=false)∧m=5-k∧z=rfkSt M u i o' k,⟨4,rfkSt M u i o' 1,le_sub ⟨rfl,rfl,rfl,rfl,trivial⟩ ⟨rfl,trivial⟩ rfl rfl rfl (keepLt0 _),⟨1,by omega,by omega,fun j h1 h2=>by omega,rfl,rfl⟩⟩,?_⟩
  rintro m z ⟨k,hk1,hk5,hno,rfl,rfl⟩
  by_cases c1:k≤4
  ·have d1:decide ((k:Int)≤4)=true:=by simp;omega
   have w4:IntKind.i64.wrap ((k:Int)+1)=((k+1:Nat):Int):=by rw[wrap_id (by omega) (by omega)];omega
   cases ht:twiB o' k with
   | true=>
    have c2:=twi_le ht
    have w2:IntKind.i64.wrap ((o'.length:Int)-(k:Int))=((o'.length-k:Nat):Int):=by rw[wrap_id (by omega) (by omega)];omega
    have b1:(0:Int)≤((o'.length-k:Nat):Int):=by omega
    have b2:((o'.length-k:Nat):Int)≤(o'.length:Int):=by omega
    (replace hb0:=true_and True);refine Go1.mk ?_;repeat' ((first|(with_reducible refine Go1.go ?_)|((with_reducible first|refine brv_mk ?_ ?_|refine gsplitD ?_ ?_|refine gsplitG ?_ ?_)<;>intro h<;>(try simp only[Bool.not_eq_true',Bool.not_eq_false']at h)<;>replace hb0:=h)|((with_reducible refine isCall (f:=85) ?_);refine callA ?_)|((with_reducible refine isCallS (f:=85) ?_);refine (refTwice_bor (L:=o') (by rfl) (by omega) (by omega) (by omega) ?_))|(refine And.intro ?_ ?_;(try simp only[sxO]at *);omega)|fail)<;>(try simp (maxSteps:=1000000) only [hb0,rfkSt,f1,Nat.sub_zero,d1,w2,b1,b2,ht,cE_ment,cE_len,hasK_nil,Nat.mul_one,↓hold_pre,awayP,runOps,regK,step1,newK,genR,appR,obl,buildR,Value.cells,closeK,keepH,outV,retK,ret1,retC,RetV,Option.getD,runD,stepD,afterK,undef,simprocAttr,sxB,↓sxD,sxE,sxTab]))
    have hs:fstep o l[i]=o'.take (o'.length-k):=by
     have:=fstep_hit hk1 c1 (by rw[ho'];exact hno) (by rw[ho'];exact ht)
     rw[ho']at this
     exact this
    have hl2:(o'.take (o'.length-k)).length=o'.length-k:=by rw[List.length_take];omega
    refine ⟨l.length-(i+1),rfoSt M u (i+1) (o'.take (o'.length-k)),by omega,(le_take 90 (o'.length-k) 9 (cE sbV o') rfl).trans (le_sub ⟨rfl,by rw[hl2];rfl,rfl,trivial⟩ ⟨?_,trivial⟩ rfl rfl rfl (keepLt0 _)),i+1,_,by omega,by rw[hnext,hs],by omega,rfl,rfl⟩
    simp[upH,lkH,cE_take]
   | false=>
    (replace hb0:=true_and True);refine Go1.mk ?_;repeat' ((first|(with_reducible refine Go1.go ?_)|((with_reducible first|refine brv_mk ?_ ?_|refine gsplitD ?_ ?_|refine gsplitG ?_ ?_)<;>intro h<;>(try simp only[Bool.not_eq_true',Bool.not_eq_false']at h)<;>replace hb0:=h)|((with_reducible refine isCall (f:=85) ?_);refine callA ?_)|((with_reducible refine isCallS (f:=85) ?_);refine (refTwice_bor (L:=o') (by rfl) (by omega) (by omega) (by omega) ?_))|(refine And.intro ?_ ?_;(try simp only[sxO]at *);omega)|fail)<;>(try simp (maxSteps:=1000000) only [hb0,rfkSt,d1,w4,ht,cE_ment,cE_len,hasK_nil,Nat.mul_one,↓hold_pre,awayP,runOps,regK,step1,newK,genR,appR,obl,buildR,Value.cells,closeK,keepH,outV,retK,ret1,retC,RetV,Option.getD,runD,stepD,afterK,undef,simprocAttr,sxB,↓sxD,sxE,sxTab]))
    exact ⟨5-(k+1),rfkSt M u i o' (k+1),by omega,le_sub ⟨rfl,rfl,rfl,rfl,trivial⟩ ⟨rfl,trivial⟩ rfl rfl rfl (keepLt0 _),k+1,by omega,by omega,fun j h1 h2=>by
     by_cases e:j=k
     ·subst e;exact ht
     ·exact hno j h1 (by omega),rfl,rfl⟩
  ·have hs:fstep o l[i]=o':=by rw[←ho'];exact fstep_miss (k:=k) (fun h=>c1 h.1) (by rw[ho'];exact hno)
   have d1:decide ((k:Int)≤4)=false:=by simp;omega
   (replace hb0:=true_and True);refine Go1.mk ?_;repeat' ((first|(with_reducible refine Go1.go ?_)|((with_reducible first|refine brv_mk ?_ ?_|refine gsplitD ?_ ?_|refine gsplitG ?_ ?_)<;>intro h<;>(try simp only[Bool.not_eq_true',Bool.not_eq_false']at h)<;>replace hb0:=h)|(refine And.intro ?_ ?_;(try simp only[sxO]at *);omega)|fail)<;>(try simp (maxSteps:=1000000) only [hb0,rfkSt,f1,d1,cE_ment,cE_len,hasK_nil,Nat.mul_one,↓hold_pre,awayP,runOps,regK,step1,newK,genR,appR,obl,buildR,Value.cells,closeK,keepH,outV,retK,ret1,retC,RetV,Option.getD,runD,stepD,afterK,undef,simprocAttr,sxB,↓sxD,sxE,sxTab]))
   exact ⟨l.length-(i+1),rfoSt M u (i+1) o',by omega,le_sub ⟨rfl,rfl,rfl,trivial⟩ ⟨rfl,trivial⟩ rfl rfl rfl (keepLt0 _),i+1,o',by omega,by rw[hnext,hs],by omega,rfl,rfl⟩
 ·obtain rfl:i=l.length:=by omega
  rw[List.take_length]at ho
  have hd:decide ((l.length:Int)<(l.length:Int))=false:=by simp
  (replace hb0:=true_and True);refine Go1.mk ?_;repeat' ((first|(with_reducible refine Go1.go ?_)|((with_reducible first|refine brv_mk ?_ ?_|refine gsplitD ?_ ?_|refine gsplitG ?_ ?_)<;>intro h<;>(try simp only[Bool.not_eq_true',Bool.not_eq_false']at h)<;>replace hb0:=h)|(refine And.intro ?_ ?_;(try simp only[sxO]at *);omega)|fail)<;>(try simp (maxSteps:=1000000) only [hb0,rfoSt,hd,hu.len,hu.sl,cE_ment,hasK_nil,↓hold_pre,awayP,runOps,regK,step1,newK,genR,appR,obl,buildR,Value.cells,closeK,keepH,outV,retK,ret1,retC,RetV,Option.getD,runD,stepD,afterK,undef,simprocAttr,sxB,↓sxD,sxE,sxTab]))
  have ho:foldB l=o:=ho.symm
  exact FrzF.one (o.map sbV) rfl (by simp) (fun u' M' hM hs hf=>hK u' M' hM (by rw[ho];exact hs) hf)
theorem refFold_bor{k n:Nat}{T:TypeId}{L:List Bst}(hn:n=L.length)(hb:L.length<1000000)(hK:∀u' M',Mem.le M M'→IsL M' sbV u' (foldB L)→FreshS M u'→K (.ext u') [(k,T,cE sbV L)] M'):CallS Tryz.prog 73 [.slo k 0 n 1] [(k,T,cE sbV L)] M [] K:=by
 refine CallS.bor (by exact ⟨⟨L.map sbV,rfl⟩,trivial⟩) fun us M' hM hb'=>?_
 obtain ⟨u1,_,rfl,hu1,rfl⟩:=hb'
 exact refFold_ok u1 L (hu1.isL (T:=T) (by simp[lkH]) hn) hb (fun u' M'' hM'' hi hf=>⟨fun _ _=>rfl,fun M3 h3 h4 _=>hK u' M3 h3 (hi.move hf h4) (hf.le hM)⟩)
end
abbrev Stk:=Bst×Bst×Int
def clC(c:Stk):List Value:=[.string (bs c.1),.string (bs c.2.1),.int .i64 c.2.2]
theorem clC_len(c:Stk):(clC c).length=3:=rfl
def callB(c:Stk):Bst:=c.1++(64 :: baseB c.2.1)
def stkB(X:List Stk):List Bst:=(foldB (X.map callB)).take 16
def clOk(c:Stk):Prop:=c.1.length≤140737488351232∧c.2.1.length≤140737488351232
section
variable {M:Mem}{K:AV→Hp→Mem→Prop}
theorem foldF_bor{k n:Nat}{T:TypeId}{L:List Bst}(hn:n=L.length)(hb:L.length<1000000)(hK:∀u' M',Mem.le M M'→IsL M' sbV u' (foldB L)→FreshS M u'→K (.ext u') [(k,T,cE sbV L)] M'):CallS Tryz.prog 67 [.slo k 0 n 1] [(k,T,cE sbV L)] M [] K:=by
 refine CallS.bor (by exact ⟨⟨L.map sbV,rfl⟩,trivial⟩) fun us M' hM hb'=>?_
 obtain ⟨u1,_,rfl,hu1,rfl⟩:=hb'
 exact foldM_ok u1 L (hu1.isL (T:=T) (by simp[lkH]) hn) hb (fun u' M'' hM'' hi hf=>⟨fun _ _=>rfl,fun M3 h3 h4 _=>hK u' M3 h3 (hi.move hf h4) (hf.le hM)⟩)
theorem min16(n:Nat):(if (16:Int)<(n:Int) then (16:Int) else (n:Int))=((min n 16:Nat):Int):=by split<;>omega
theorem take16{α:Type}(l:List α):(l.drop 0).take (min l.length 16-0)=l.take 16:=by
 rw[List.drop_zero,Nat.sub_zero]
 by_cases h:l.length≤16
 ·rw[Nat.min_eq_left h,List.take_of_length_le (Nat.le_refl _),List.take_of_length_le h]
 ·rw[Nat.min_eq_right (by omega)]
theorem SlM.freshSub{M M':Mem}{u:Value}{w n:Nat}{cs:List Value}(hs:SlM M' w u n cs)(h:FreshS M u)(z:Nat){i j:Nat}(hij:i≤j)(hj:j≤n):FreshS M (subS u z i j):=by
 rcases hs.cases with ⟨rfl,rfl,a,c,rfl⟩|⟨b,off,c,rfl,_,_⟩
 ·left;show j-i=0;omega
 ·rcases h with h|h
  ·left
   have h:n=0:=h
   show j-i=0
   omega
  ·right
   intro b1 off1 n1 c1 e
   have hb:=h _ _ _ _ rfl
   simp only[subS]at e
   split at e
   ·simp only[Value.slice.injEq,Option.some.injEq,Addr.mk.injEq]at e
    obtain ⟨⟨rfl,-⟩,-⟩:=e
    exact hb
   ·simp only[Value.slice.injEq,Option.map_some,Option.some.injEq]at e
    have e1:=e.1
    unfold Addr.add at e1
    split at e1
    ·simp only[Addr.mk.injEq]at e1
     obtain ⟨rfl,-⟩:=e1
     exact hb
    ·simp only[Addr.mk.injEq]at e1
     obtain ⟨rfl,-⟩:=e1
     exact hb
def mcSt(M:Mem)(u:Value)(n i:Nat)(o:List Bst):St:={env:=[(8,.ext (.int .i64 (i:Int))),(7,.ext (.int .i64 (n:Int))),(6,.ext u),(3,.slo 90 0 o.length 1)],hp:=[(90,9,cE sbV o)],M:=M,kb:=0,fx:=[]}
theorem callsM_ok(u:Value)(X:List Stk)(hu:IsR M 3 clC u X)(hX:X.length<1000000)(hs:∀c∈X,clOk c)(hK:∀u' M',Mem.le M M'→IsL M' sbV u' (stkB X)→FreshS M u'→K (.ext u') [] M'):CallS Tryz.prog 44 [.ext u] [] M [] K:=by
 refine inlS (cs:=[]) Tryz.mixed Tryz.func44 rfl (by kernel_rfl) 0 rfl rfl ?_
 simp only[Tryz.f44]
 (replace hb0:=true_and True);refine Go1.mk ?_;repeat' ((first|(with_reducible refine Go1.go ?_)|((with_reducible first|refine brv_mk ?_ ?_|refine gsplitD ?_ ?_|refine gsplitG ?_ ?_)<;>intro h<;>(try simp only[Bool.not_eq_true',Bool.not_eq_false']at h)<;>replace hb0:=h)|((with_reducible refine isDraw [some 12,some 13,some 14,some 15,some 16,some 17,some 18,some 19,some 20,some 21,some 3] (by decide) ?_);refine draw_rule [(0,[]),(1,[]),(2,[]),(3,[]),(4,[2]),(5,[2]),(6,[2]),(7,[]),(8,[]),(9,[]),(10,[])] [[],[],[1],[1,2],[],[4],[4,5],[1,2,3,4,5,6],[1,2,3,4,5,6,7],[0,1,2,3,4,5,6,7,8],[0,1,2,3,4,5,6,7,8,9]] [12,13,14,15,16,17,18,19,20] [] (by kernel_rfl) (by kernel_rfl) (by kernel_rfl) (by kernel_rfl) (by exact trivial) ?_)|(refine And.intro ?_ ?_;(try simp only[sxO]at *);omega)|fail)<;>(try simp (maxSteps:=1000000) only [hb0,hu.len,hu.sl,↓hold_pre,awayP,runOps,regK,step1,newK,genR,appR,obl,buildR,Value.cells,closeK,keepH,outV,retK,ret1,retC,RetV,Option.getD,runD,stepD,afterK,undef,simprocAttr,sxB,↓sxD,sxE,sxTab]))
 refine ⟨fun m z=>∃i o,i≤X.length∧o=(X.take i).map callB∧m=X.length-i∧z=mcSt M u X.length i o,⟨X.length,mcSt M u X.length 0 [],(le_nil 3 90 9 1 rfl (.inl rfl)).trans (le_sub ⟨rfl,rfl,rfl,rfl,trivial⟩ ⟨rfl,trivial⟩ rfl rfl rfl (keepLt0 _)),⟨0,[],by omega,rfl,rfl,rfl⟩⟩,?_⟩
 rintro m z ⟨i,o,hi,ho,rfl,rfl⟩
 have hol:o.length=i:=by rw[ho,List.length_map,List.length_take];omega
 by_cases hlt:i<X.length
 ·have f0:=hu.at (P:=Tryz.prog) (T:=57) clC_len tk57 tz57 hlt
  obtain ⟨h1,h2⟩:=hs X[i] (List.getElem_mem hlt)
  have hnx:o++[callB X[i]]=(X.take (i+1)).map callB:=by rw[List.take_succ_eq_append_getElem hlt,List.map_append,←ho];rfl
  generalize X[i]=c at f0 h1 h2 hnx
  have f1:lookM Tryz.prog 57 M (elemP u 3 i)=some (.agg #[.string (bs c.1),.string (bs c.2.1),.int .i64 c.2.2]):=f0
  have d1:decide ((i:Int)<(X.length:Int))=true:=by simp;omega
  have b1:(0:Int)≤(i:Int):=by omega
  have b2:(i:Int)<(X.length:Int):=by omega
  have wi:IntKind.i64.wrap ((i:Int)+1)=((i+1:Nat):Int):=by rw[wrap_id (by omega) (by omega)];omega
  have n1:=hu.nn hlt
  have hbl:=base_len c.2.1
  have m1:ByteArray.mk #[64]=bs [64]:=rfl
  have g1:((((c.1.length+[(64:UInt8)].length:Nat):Int))≤9223372036854775807)=True:=by simp;omega
  have g2:((((c.1++[(64:UInt8)]).length+(baseB c.2.1).length:Nat):Int)≤9223372036854775807)=True:=by simp;omega
  have e1:c.1++[(64:UInt8)]++baseB c.2.1=callB c:=by simp[callB]
  (replace hb0:=true_and True);refine Go1.mk ?_;repeat' ((first|(with_reducible refine Go1.go ?_)|((with_reducible first|refine brv_mk ?_ ?_|refine gsplitD ?_ ?_|refine gsplitG ?_ ?_)<;>intro h<;>(try simp only[Bool.not_eq_true',Bool.not_eq_false']at h)<;>replace hb0:=h)|(((with_reducible refine isCall0 (f:=66) ?_);refine callA0_nil (by kernel_rfl) ?_;refine (base_ok c.2.1 (by omega) ?_)))|((with_reducible refine isDraw [some 12,some 13,some 14,some 15,some 16,some 17,some 18,some 19,some 20,some 21,some 3] (by decide) ?_);refine draw_rule [(0,[]),(1,[]),(2,[]),(3,[]),(4,[2]),(5,[2]),(6,[2]),(7,[]),(8,[]),(9,[]),(10,[])] [[],[],[1],[1,2],[],[4],[4,5],[1,2,3,4,5,6],[1,2,3,4,5,6,7],[0,1,2,3,4,5,6,7,8],[0,1,2,3,4,5,6,7,8,9]] [12,13,14,15,16,17,18,19,20] [] (by kernel_rfl) (by kernel_rfl) (by kernel_rfl) (by kernel_rfl) (by exact trivial) ?_)|(refine And.intro ?_ ?_;(try simp only[sxO]at *);omega)|fail)<;>(try simp (maxSteps:=1000000) only [hb0,mcSt,d1,f1,b1,b2,wi,n1,m1,g1,g2,e1,sbV,str_snoc,hu.len,hu.sl,hu.pt hlt,cE_ment,cE_len,cE_kill,hasK_nil,maxLen,Nat.mul_one,bs_mk,bs_app,bs_ext,bs_size,bs_toList,bs_at,bs_cells,List.take_length,imp_ga,guard_pk,guard_pk2,↓hold_pre,awayP,runOps,regK,step1,newK,genR,appR,obl,buildR,Value.cells,closeK,keepH,outV,retK,ret1,retC,RetV,Option.getD,runD,stepD,afterK,undef,simprocAttr,sxB,↓sxD,sxE,sxTab]))
  exact ⟨X.length-(i+1),mcSt M u X.length (i+1) (o++[callB c]),by omega,le_sub ⟨rfl,rfl,rfl,by rw[List.length_append];rfl,trivial⟩ ⟨rfl,trivial⟩ rfl rfl rfl (keepLt0 _),i+1,_,by omega,hnx,rfl,rfl⟩
 ·obtain rfl:i=X.length:=by omega
  rw[List.take_length]at ho
  have hd:decide ((X.length:Int)<(X.length:Int))=false:=by simp
  (replace hb0:=true_and True);refine Go1.mk ?_;repeat' ((first|(with_reducible refine Go1.go ?_)|((with_reducible first|refine brv_mk ?_ ?_|refine gsplitD ?_ ?_|refine gsplitG ?_ ?_)<;>intro h<;>(try simp only[Bool.not_eq_true',Bool.not_eq_false']at h)<;>replace hb0:=h)|((with_reducible refine isCall (f:=67) ?_);refine callA ?_)|((with_reducible refine isCallS (f:=67) ?_);refine (foldF_bor (L:=o) (by rfl) (by omega) (fun u2 M2 hM2 h2 hf2=>Stop.mk ?_)))|((with_reducible refine isDraw [some 12,some 13,some 14,some 15,some 16,some 17,some 18,some 19,some 20,some 21,some 3] (by decide) ?_);refine draw_rule [(0,[]),(1,[]),(2,[]),(3,[]),(4,[2]),(5,[2]),(6,[2]),(7,[]),(8,[]),(9,[]),(10,[])] [[],[],[1],[1,2],[],[4],[4,5],[1,2,3,4,5,6],[1,2,3,4,5,6,7],[0,1,2,3,4,5,6,7,8],[0,1,2,3,4,5,6,7,8,9]] [12,13,14,15,16,17,18,19,20] [] (by kernel_rfl) (by kernel_rfl) (by kernel_rfl) (by kernel_rfl) (by exact trivial) ?_)|(refine And.intro ?_ ?_;(try simp only[sxO]at *);omega)|fail)<;>(try simp (maxSteps:=1000000) only [hb0,mcSt,hd,hu.len,hu.sl,cE_ment,hasK_nil,↓hold_pre,awayP,runOps,regK,step1,newK,genR,appR,obl,buildR,Value.cells,closeK,keepH,outV,retK,ret1,retC,RetV,Option.getD,runD,stepD,afterK,undef,simprocAttr,sxB,↓sxD,sxE,sxTab]))
  refine Stop.go ?_
  have hM2:Mem.le M M2:=hM2
  have hF:(foldB o).take 16=stkB X:=by rw[ho];rfl
  have hcap:=h2.cap
  have q1:=min16 (foldB o).length
  have q2:(0:Int)≤((min (foldB o).length 16:Nat):Int):=by omega
  have q3:((min (foldB o).length 16:Nat):Int)≤(scap u2:Int):=by omega
  have hsub:=h2.sub (i:=0) (j:=min (foldB o).length 16) (by omega) (by omega)
  rw[take16,hF]at hsub
  (replace hb0:=true_and True);refine Go1.mk ?_;repeat' ((first|(with_reducible refine Go1.go ?_)|((with_reducible first|refine brv_mk ?_ ?_|refine gsplitD ?_ ?_|refine gsplitG ?_ ?_)<;>intro h<;>(try simp only[Bool.not_eq_true',Bool.not_eq_false']at h)<;>replace hb0:=h)|((with_reducible refine isDraw [some 12,some 13,some 14,some 15,some 16,some 17,some 18,some 19,some 20,some 21,some 3] (by decide) ?_);refine draw_rule [(0,[]),(1,[]),(2,[]),(3,[]),(4,[2]),(5,[2]),(6,[2]),(7,[]),(8,[]),(9,[]),(10,[])] [[],[],[1],[1,2],[],[4],[4,5],[1,2,3,4,5,6],[1,2,3,4,5,6,7],[0,1,2,3,4,5,6,7,8],[0,1,2,3,4,5,6,7,8,9]] [12,13,14,15,16,17,18,19,20] [] (by kernel_rfl) (by kernel_rfl) (by kernel_rfl) (by kernel_rfl) (by exact trivial) ?_)|(refine And.intro ?_ ?_;(try simp only[sxO]at *);omega)|fail)<;>(try simp (maxSteps:=1000000) only [hb0,q1,q2,q3,h2.len,h2.sl,Int.toNat_zero,cE_ment,hasK_nil,↓hold_pre,awayP,runOps,regK,step1,newK,genR,appR,obl,buildR,Value.cells,closeK,keepH,outV,retK,ret1,retC,RetV,Option.getD,runD,stepD,afterK,undef,simprocAttr,sxB,↓sxD,sxE,sxTab]))
  exact hK _ M2 hM2 hsub (SlM.freshSub h2 hf2 1 (by omega) (by omega))
theorem lastIdx_ok(l:Bst)(hl:l.length<1000000000000000)(hK:K (.ext (.int .i64 (Lib.lastIndexByte (bs l) 47))) [] M):CallS Tryz.prog 72 [.ext (.string (bs l)),.ext (.string (bs [47]))] [] M [] K:=
 callS_of (us:=[.string (bs l),.string (bs [47])]) (fun w=>(Tryz.strings_LastIndex_one (bs l) (bs [47]) rfl (by rw[bs_size];omega) w).mono fun e w' h=>⟨h.1,h.2▸Below.refl _ _⟩) hK
def rcSt2(M:Mem)(u:Value)(i:Nat)(o:List Bst):St:={env:=[(4,.ext (.int .i64 (i:Int))),(3,.slo 90 0 o.length 1),(0,.ext u)],hp:=[(90,9,cE sbV o)],M:=M,kb:=0,fx:=[]}
theorem refCalls_ok(u:Value)(X:List Stk)(hu:IsR M 3 clC u X)(hX:X.length<1000000)(hs:∀c∈X,clOk c)(hK:∀u' M',Mem.le M M'→IsL M' sbV u' (stkB X)→K (.ext u') [] M'):CallS Tryz.prog 52 [.ext u] [] M [] K:=by
 refine inlS (cs:=[]) Tryz.mixed Tryz.func52 rfl (by kernel_rfl) 0 rfl rfl ?_
 simp only[Tryz.f52]
 (replace hb0:=true_and True);refine Go1.mk ?_;repeat' ((first|(with_reducible refine Go1.go ?_)|((with_reducible first|refine brv_mk ?_ ?_|refine gsplitD ?_ ?_|refine gsplitG ?_ ?_)<;>intro h<;>(try simp only[Bool.not_eq_true',Bool.not_eq_false']at h)<;>replace hb0:=h)|((with_reducible refine isDraw [some 11,some 12,some 13,some 14,some 15,some 16,some 17,some 18,some 19,some 20,some 21,some 22,some 23,some 24,some 25,some 26,some 27,some 28,some 29,some 30,some 31,some 32,some 33,some 3] (by decide) ?_);refine draw_rule [(0,[]),(1,[]),(2,[]),(3,[]),(4,[]),(5,[]),(6,[]),(7,[5]),(8,[5]),(9,[5]),(10,[5]),(11,[5]),(12,[5,11]),(13,[5,11]),(14,[5,11]),(15,[5,11]),(16,[5,11]),(17,[5,11]),(18,[5,11]),(19,[5]),(20,[]),(21,[]),(22,[]),(23,[])] [[],[],[],[1,2],[1,2,3],[1,2,3,4],[1,2,3,4,5],[],[],[7,8],[7,8,9],[7,8,9,10],[],[],[12,13],[12,13,14],[12,13,14,15],[12,13,14,15,16],[12,13,14,15,16,17],[7,8,9,10,11,12,13,14,15,16,17,18],[1,2,3,4,5,6,7,8,9,10,11,12,13,14,15,16,17,18,19],[1,2,3,4,5,6,7,8,9,10,11,12,13,14,15,16,17,18,19,20],[0,1,2,3,4,5,6,7,8,9,10,11,12,13,14,15,16,17,18,19,20,21],[0,1,2,3,4,5,6,7,8,9,10,11,12,13,14,15,16,17,18,19,20,21,22]] [11,12,13,14,15,16,17,18,19,20,21,22,23,24,25,26,27,28,29,30,31,32] [] (by kernel_rfl) (by kernel_rfl) (by kernel_rfl) (by kernel_rfl) (by exact trivial) ?_)|(refine And.intro ?_ ?_;(try simp only[sxO]at *);omega)|fail)<;>(try simp (maxSteps:=1000000) only [hb0,hu.len,hu.sl,↓hold_pre,awayP,runOps,regK,step1,newK,genR,appR,obl,buildR,Value.cells,closeK,keepH,outV,retK,ret1,retC,RetV,Option.getD,runD,stepD,afterK,undef,simprocAttr,sxB,↓sxD,sxE,sxTab]))
 refine ⟨fun m z=>∃i o,i≤X.length∧o=(X.take i).map callB∧m=X.length-i∧z=rcSt2 M u i o,⟨X.length,rcSt2 M u 0 [],(le_nil 3 90 9 1 rfl (.inl rfl)).trans (le_sub ⟨rfl,rfl,rfl,trivial⟩ ⟨rfl,trivial⟩ rfl rfl rfl (keepLt0 _)),⟨0,[],by omega,rfl,rfl,rfl⟩⟩,?_⟩
 rintro m z ⟨i,o,hi,ho,rfl,rfl⟩
 have hol:o.length=i:=by rw[ho,List.length_map,List.length_take];omega
 by_cases hlt:i<X.length
 ·have f0:=hu.atF (P:=Tryz.prog) (T:=9) clC_len tk9 tz9 hlt (o:=0) rfl
  have f00:=hu.atF (P:=Tryz.prog) (T:=9) clC_len tk9 tz9 hlt (o:=1) rfl
  obtain ⟨h1,h2⟩:=hs X[i] (List.getElem_mem hlt)
  have hnx:o++[callB X[i]]=(X.take (i+1)).map callB:=by rw[List.take_succ_eq_append_getElem hlt,List.map_append,←ho];rfl
  generalize X[i]=c at f0 f00 h1 h2 hnx
  have d1:decide ((i:Int)<(X.length:Int))=true:=by simp;omega
  have b1:(0:Int)≤(i:Int):=by omega
  have b2:(i:Int)<(X.length:Int):=by omega
  have wi:IntKind.i64.wrap ((i:Int)+1)=((i+1:Nat):Int):=by rw[wrap_id (by omega) (by omega)];omega
  have n1:=hu.nn hlt
  have hbl:=base_len c.2.1
  have m1:ByteArray.mk #[64]=bs [64]:=rfl
  have m2:ByteArray.mk #[47]=bs [47]:=rfl
  have g1:((((c.1.length+[(64:UInt8)].length:Nat):Int))≤9223372036854775807)=True:=by simp;omega
  have g2:((((c.1++[(64:UInt8)]).length+(baseB c.2.1).length:Nat):Int)≤9223372036854775807)=True:=by simp;omega
  have e1:c.1++[(64:UInt8)]++baseB c.2.1=callB c:=by simp[callB]
  have done:∀(s:St),lk s.env 4=.ext (.int .i64 ((i+1:Nat):Int))→lk s.env 3=.slo 90 0 (o.length+1) 1→lk s.env 0=.ext u→lkH s.hp 90=some (9,cE sbV (o++[callB c]))→s.M=M→s.kb=0→s.fx=[]→∃m' z,m'<X.length-i∧Le s z∧∃i o,i≤X.length∧o=List.map callB (List.take i X)∧m'=X.length-i∧z=rcSt2 M u i o:=fun s e4 e3 e0 eh eM ek ef=>
   ⟨X.length-(i+1),rcSt2 M u (i+1) (o++[callB c]),by omega,le_sub ⟨e4,by rw[List.length_append];exact e3,e0,trivial⟩ ⟨eh,trivial⟩ eM.symm ek.symm ef.symm (by rw[ek];exact keepLt0 _),i+1,_,by omega,hnx,rfl,rfl⟩
  rcases base_split c.2.1 with ⟨q,hq,q1,q2⟩|⟨q1,q2⟩
  ·have w1:IntKind.i64.wrap ((q:Int)+1)=((q+1:Nat):Int):=by rw[wrap_id (by omega) (by omega)];omega
   (replace hb0:=true_and True);refine Go1.mk ?_;repeat' ((first|(with_reducible refine Go1.go ?_)|((with_reducible first|refine brv_mk ?_ ?_|refine gsplitD ?_ ?_|refine gsplitG ?_ ?_)<;>intro h<;>(try simp only[Bool.not_eq_true',Bool.not_eq_false']at h)<;>replace hb0:=h)|(((with_reducible refine isCall0 (f:=72) ?_);refine callA0_nil (by kernel_rfl) ?_;refine (lastIdx_ok c.2.1 (by omega) ?_)))|((with_reducible refine isDraw [some 11,some 12,some 13,some 14,some 15,some 16,some 17,some 18,some 19,some 20,some 21,some 22,some 23,some 24,some 25,some 26,some 27,some 28,some 29,some 30,some 31,some 32,some 33,some 3] (by decide) ?_);refine draw_rule [(0,[]),(1,[]),(2,[]),(3,[]),(4,[]),(5,[]),(6,[]),(7,[5]),(8,[5]),(9,[5]),(10,[5]),(11,[5]),(12,[5,11]),(13,[5,11]),(14,[5,11]),(15,[5,11]),(16,[5,11]),(17,[5,11]),(18,[5,11]),(19,[5]),(20,[]),(21,[]),(22,[]),(23,[])] [[],[],[],[1,2],[1,2,3],[1,2,3,4],[1,2,3,4,5],[],[],[7,8],[7,8,9],[7,8,9,10],[],[],[12,13],[12,13,14],[12,13,14,15],[12,13,14,15,16],[12,13,14,15,16,17],[7,8,9,10,11,12,13,14,15,16,17,18],[1,2,3,4,5,6,7,8,9,10,11,12,13,14,15,16,17,18,19],[1,2,3,4,5,6,7,8,9,10,11,12,13,14,15,16,17,18,19,20],[0,1,2,3,4,5,6,7,8,9,10,11,12,13,14,15,16,17,18,19,20,21],[0,1,2,3,4,5,6,7,8,9,10,11,12,13,14,15,16,17,18,19,20,21,22]] [11,12,13,14,15,16,17,18,19,20,21,22,23,24,25,26,27,28,29,30,31,32] [] (by kernel_rfl) (by kernel_rfl) (by kernel_rfl) (by kernel_rfl) (by exact trivial) ?_)|(refine And.intro ?_ ?_;(try simp only[sxO]at *);omega)|fail)<;>(try simp (maxSteps:=1000000) only [hb0,rcSt2,d1,f0,f00,b1,b2,wi,w1,q1,q2,n1,m1,m2,g1,g2,e1,sbV,str_snoc,hu.len,hu.sl,hu.pt hlt,cE_ment,cE_len,cE_kill,hasK_nil,maxLen,Nat.mul_one,bs_mk,bs_app,bs_ext,bs_size,bs_toList,bs_at,bs_cells,List.take_length,imp_ga,guard_pk,guard_pk2,↓hold_pre,awayP,runOps,regK,step1,newK,genR,appR,obl,buildR,Value.cells,closeK,keepH,outV,retK,ret1,retC,RetV,Option.getD,runD,stepD,afterK,undef,simprocAttr,sxB,↓sxD,sxE,sxTab]))
   exact done _ rfl rfl rfl rfl rfl rfl rfl
  ·have w1:IntKind.i64.wrap 0=0:=by decide
   rw[←q2]at g2 e1
   (replace hb0:=true_and True);refine Go1.mk ?_;repeat' ((first|(with_reducible refine Go1.go ?_)|((with_reducible first|refine brv_mk ?_ ?_|refine gsplitD ?_ ?_|refine gsplitG ?_ ?_)<;>intro h<;>(try simp only[Bool.not_eq_true',Bool.not_eq_false']at h)<;>replace hb0:=h)|(((with_reducible refine isCall0 (f:=72) ?_);refine callA0_nil (by kernel_rfl) ?_;refine (lastIdx_ok c.2.1 (by omega) ?_)))|((with_reducible refine isDraw [some 11,some 12,some 13,some 14,some 15,some 16,some 17,some 18,some 19,some 20,some 21,some 22,some 23,some 24,some 25,some 26,some 27,some 28,some 29,some 30,some 31,some 32,some 33,some 3] (by decide) ?_);refine draw_rule [(0,[]),(1,[]),(2,[]),(3,[]),(4,[]),(5,[]),(6,[]),(7,[5]),(8,[5]),(9,[5]),(10,[5]),(11,[5]),(12,[5,11]),(13,[5,11]),(14,[5,11]),(15,[5,11]),(16,[5,11]),(17,[5,11]),(18,[5,11]),(19,[5]),(20,[]),(21,[]),(22,[]),(23,[])] [[],[],[],[1,2],[1,2,3],[1,2,3,4],[1,2,3,4,5],[],[],[7,8],[7,8,9],[7,8,9,10],[],[],[12,13],[12,13,14],[12,13,14,15],[12,13,14,15,16],[12,13,14,15,16,17],[7,8,9,10,11,12,13,14,15,16,17,18],[1,2,3,4,5,6,7,8,9,10,11,12,13,14,15,16,17,18,19],[1,2,3,4,5,6,7,8,9,10,11,12,13,14,15,16,17,18,19,20],[0,1,2,3,4,5,6,7,8,9,10,11,12,13,14,15,16,17,18,19,20,21],[0,1,2,3,4,5,6,7,8,9,10,11,12,13,14,15,16,17,18,19,20,21,22]] [11,12,13,14,15,16,17,18,19,20,21,22,23,24,25,26,27,28,29,30,31,32] [] (by kernel_rfl) (by kernel_rfl) (by kernel_rfl) (by kernel_rfl) (by exact trivial) ?_)|(refine And.intro ?_ ?_;(try simp only[sxO]at *);omega)|fail)<;>(try simp (maxSteps:=1000000) only [hb0,rcSt2,d1,f0,f00,b1,b2,wi,w1,q1,n1,m1,m2,g1,g2,e1,sbV,str_snoc,hu.len,hu.sl,hu.pt hlt,Int.toNat_zero,cE_ment,cE_len,cE_kill,hasK_nil,maxLen,Nat.mul_one,bs_mk,bs_app,bs_ext,bs_size,bs_toList,bs_at,bs_cells,List.take_length,imp_ga,guard_pk,guard_pk2,↓hold_pre,awayP,runOps,regK,step1,newK,genR,appR,obl,buildR,Value.cells,closeK,keepH,outV,retK,ret1,retC,RetV,Option.getD,runD,stepD,afterK,undef,simprocAttr,sxB,↓sxD,sxE,sxTab]))
   exact done _ rfl rfl rfl rfl rfl rfl rfl
 ·obtain rfl:i=X.length:=by omega
  rw[List.take_length]at ho
  have hd:decide ((X.length:Int)<(X.length:Int))=false:=by simp
  (replace hb0:=true_and True);refine Go1.mk ?_;repeat' ((first|(with_reducible refine Go1.go ?_)|((with_reducible first|refine brv_mk ?_ ?_|refine gsplitD ?_ ?_|refine gsplitG ?_ ?_)<;>intro h<;>(try simp only[Bool.not_eq_true',Bool.not_eq_false']at h)<;>replace hb0:=h)|((with_reducible refine isCall (f:=73) ?_);refine callA ?_)|((with_reducible refine isCallS (f:=73) ?_);refine (refFold_bor (L:=o) (by rfl) (by omega) (fun u2 M2 hM2 h2 hf2=>Stop.mk ?_)))|((with_reducible refine isDraw [some 11,some 12,some 13,some 14,some 15,some 16,some 17,some 18,some 19,some 20,some 21,some 22,some 23,some 24,some 25,some 26,some 27,some 28,some 29,some 30,some 31,some 32,some 33,some 3] (by decide) ?_);refine draw_rule [(0,[]),(1,[]),(2,[]),(3,[]),(4,[]),(5,[]),(6,[]),(7,[5]),(8,[5]),(9,[5]),(10,[5]),(11,[5]),(12,[5,11]),(13,[5,11]),(14,[5,11]),(15,[5,11]),(16,[5,11]),(17,[5,11]),(18,[5,11]),(19,[5]),(20,[]),(21,[]),(22,[]),(23,[])] [[],[],[],[1,2],[1,2,3],[1,2,3,4],[1,2,3,4,5],[],[],[7,8],[7,8,9],[7,8,9,10],[],[],[12,13],[12,13,14],[12,13,14,15],[12,13,14,15,16],[12,13,14,15,16,17],[7,8,9,10,11,12,13,14,15,16,17,18],[1,2,3,4,5,6,7,8,9,10,11,12,13,14,15,16,17,18,19],[1,2,3,4,5,6,7,8,9,10,11,12,13,14,15,16,17,18,19,20],[0,1,2,3,4,5,6,7,8,9,10,11,12,13,14,15,16,17,18,19,20,21],[0,1,2,3,4,5,6,7,8,9,10,11,12,13,14,15,16,17,18,19,20,21,22]] [11,12,13,14,15,16,17,18,19,20,21,22,23,24,25,26,27,28,29,30,31,32] [] (by kernel_rfl) (by kernel_rfl) (by kernel_rfl) (by kernel_rfl) (by exact trivial) ?_)|(refine And.intro ?_ ?_;(try simp only[sxO]at *);omega)|fail)<;>(try simp (maxSteps:=1000000) only [hb0,rcSt2,hd,hu.len,hu.sl,cE_ment,hasK_nil,↓hold_pre,awayP,runOps,regK,step1,newK,genR,appR,obl,buildR,Value.cells,closeK,keepH,outV,retK,ret1,retC,RetV,Option.getD,runD,stepD,afterK,undef,simprocAttr,sxB,↓sxD,sxE,sxTab]))
  refine Stop.go ?_
  have hM2:Mem.le M M2:=hM2
  have hF:(foldB o).take 16=stkB X:=by rw[ho];rfl
  have hcap:=h2.cap
  have q1:=min16 (foldB o).length
  have q2:(0:Int)≤((min (foldB o).length 16:Nat):Int):=by omega
  have q3:((min (foldB o).length 16:Nat):Int)≤(scap u2:Int):=by omega
  have hsub:=h2.sub (i:=0) (j:=min (foldB o).length 16) (by omega) (by omega)
  rw[take16,hF]at hsub
  (replace hb0:=true_and True);refine Go1.mk ?_;repeat' ((first|(with_reducible refine Go1.go ?_)|((with_reducible first|refine brv_mk ?_ ?_|refine gsplitD ?_ ?_|refine gsplitG ?_ ?_)<;>intro h<;>(try simp only[Bool.not_eq_true',Bool.not_eq_false']at h)<;>replace hb0:=h)|((with_reducible refine isDraw [some 11,some 12,some 13,some 14,some 15,some 16,some 17,some 18,some 19,some 20,some 21,some 22,some 23,some 24,some 25,some 26,some 27,some 28,some 29,some 30,some 31,some 32,some 33,some 3] (by decide) ?_);refine draw_rule [(0,[]),(1,[]),(2,[]),(3,[]),(4,[]),(5,[]),(6,[]),(7,[5]),(8,[5]),(9,[5]),(10,[5]),(11,[5]),(12,[5,11]),(13,[5,11]),(14,[5,11]),(15,[5,11]),(16,[5,11]),(17,[5,11]),(18,[5,11]),(19,[5]),(20,[]),(21,[]),(22,[]),(23,[])] [[],[],[],[1,2],[1,2,3],[1,2,3,4],[1,2,3,4,5],[],[],[7,8],[7,8,9],[7,8,9,10],[],[],[12,13],[12,13,14],[12,13,14,15],[12,13,14,15,16],[12,13,14,15,16,17],[7,8,9,10,11,12,13,14,15,16,17,18],[1,2,3,4,5,6,7,8,9,10,11,12,13,14,15,16,17,18,19],[1,2,3,4,5,6,7,8,9,10,11,12,13,14,15,16,17,18,19,20],[0,1,2,3,4,5,6,7,8,9,10,11,12,13,14,15,16,17,18,19,20,21],[0,1,2,3,4,5,6,7,8,9,10,11,12,13,14,15,16,17,18,19,20,21,22]] [11,12,13,14,15,16,17,18,19,20,21,22,23,24,25,26,27,28,29,30,31,32] [] (by kernel_rfl) (by kernel_rfl) (by kernel_rfl) (by kernel_rfl) (by exact trivial) ?_)|(refine And.intro ?_ ?_;(try simp only[sxO]at *);omega)|fail)<;>(try simp (maxSteps:=1000000) only [hb0,q1,q2,q3,h2.len,h2.sl,Int.toNat_zero,cE_ment,hasK_nil,↓hold_pre,awayP,runOps,regK,step1,newK,genR,appR,obl,buildR,Value.cells,closeK,keepH,outV,retK,ret1,retC,RetV,Option.getD,runD,stepD,afterK,undef,simprocAttr,sxB,↓sxD,sxE,sxTab]))
  exact hK _ M2 hM2 hsub
end
def usB(p t:Bst):Bool:=decide (0<p.length)&&(decide (p.length≤24)&&(decide (0<t.length)&&decide (t.length≤24)))
def nameV(p t:Bst):Value:=.agg #[.string (bs p),.string (bs t)]
theorem nil_beq(p:Bst):(p==[]) = !decide (0<p.length):=by cases p<;>simp
section
variable {M:Mem}{K:AV→Hp→Mem→Prop}
theorem usable_ok(p t:Bst)(hK:K (.ext (.bool (usB p t))) [] M):CallS Tryz.prog 58 [.ext (nameV p t)] [] M [] K:=by
 refine inlS (cs:=[]) Tryz.mixed Tryz.func58 rfl (by kernel_rfl) 0 rfl rfl ?_
 simp only[Tryz.f58]
 have e0:(⟨#[]⟩:ByteArray)=bs []:=rfl
 (replace hb0:=true_and True);refine Go1.mk ?_;repeat' ((first|(with_reducible refine Go1.go ?_)|((with_reducible first|refine brv_mk ?_ ?_|refine gsplitD ?_ ?_|refine gsplitG ?_ ?_)<;>intro h<;>(try simp only[Bool.not_eq_true',Bool.not_eq_false']at h)<;>replace hb0:=h)|(refine And.intro ?_ ?_;(try simp only[sxO]at *);omega)|fail)<;>(try simp (maxSteps:=1000000) only [hb0,nameV,e0,nil_beq,bs_mk,bs_app,bs_ext,bs_size,bs_toList,bs_at,bs_cells,List.take_length,imp_ga,guard_pk,guard_pk2,↓hold_pre,awayP,runOps,regK,step1,newK,genR,appR,obl,buildR,Value.cells,closeK,keepH,outV,retK,ret1,retC,RetV,Option.getD,runD,stepD,afterK,undef,simprocAttr,sxB,↓sxD,sxE,sxTab]))
 refine (congrArg (fun b=>K (.ext (.bool b)) [] M) ?_).mp hK
 unfold usB;rw[Bool.eq_iff_iff];simp;omega
theorem refUsable_ok(p t:Bst)(hK:K (.ext (.bool (usB p t))) [] M):CallS Tryz.prog 49 [.ext (nameV p t)] [] M [] K:=by
 refine inlS (cs:=[]) Tryz.mixed Tryz.func49 rfl (by kernel_rfl) 0 rfl rfl ?_
 simp only[Tryz.f49]
 (replace hb0:=true_and True);refine Go1.mk ?_;repeat' ((first|(with_reducible refine Go1.go ?_)|((with_reducible first|refine brv_mk ?_ ?_|refine gsplitD ?_ ?_|refine gsplitG ?_ ?_)<;>intro h<;>(try simp only[Bool.not_eq_true',Bool.not_eq_false']at h)<;>replace hb0:=h)|(refine And.intro ?_ ?_;(try simp only[sxO]at *);omega)|fail)<;>(try simp (maxSteps:=1000000) only [hb0,nameV,bs_mk,bs_app,bs_ext,bs_size,bs_toList,bs_at,bs_cells,List.take_length,imp_ga,guard_pk,guard_pk2,↓hold_pre,awayP,runOps,regK,step1,newK,genR,appR,obl,buildR,Value.cells,closeK,keepH,outV,retK,ret1,retC,RetV,Option.getD,runD,stepD,afterK,undef,simprocAttr,sxB,↓sxD,sxE,sxTab]))
 refine (congrArg (fun b=>K (.ext (.bool b)) [] M) ?_).mp hK
 unfold usB;rw[Bool.eq_iff_iff];simp;omega
theorem refPlace_ok(e:Int)(hK:K (.ext (.bool (decide (0≤e)&&decide (e≤63)))) [] M):CallS Tryz.prog 50 [.ext (.int .i64 e)] [] M [] K:=by
 refine inlS (cs:=[]) Tryz.mixed Tryz.func50 rfl (by kernel_rfl) 0 rfl rfl ?_
 simp only[Tryz.f50]
 (replace hb0:=true_and True);refine Go1.mk ?_;repeat' ((first|(with_reducible refine Go1.go ?_)|((with_reducible first|refine brv_mk ?_ ?_|refine gsplitD ?_ ?_|refine gsplitG ?_ ?_)<;>intro h<;>(try simp only[Bool.not_eq_true',Bool.not_eq_false']at h)<;>replace hb0:=h)|(refine And.intro ?_ ?_;(try simp only[sxO]at *);omega)|fail)<;>(try simp (maxSteps:=1000000) only [hb0,bs_mk,bs_app,bs_ext,bs_size,bs_toList,bs_at,bs_cells,List.take_length,imp_ga,guard_pk,guard_pk2,↓hold_pre,awayP,runOps,regK,step1,newK,genR,appR,obl,buildR,Value.cells,closeK,keepH,outV,retK,ret1,retC,RetV,Option.getD,runD,stepD,afterK,undef,simprocAttr,sxB,↓sxD,sxE,sxTab]))
 exact hK
def histV(p t:Bst)(e:Int):Value:=.agg #[.string (bs p),.string (bs t),.int .i64 e,.int .i64 2,.int .i64 0,.int .i64 0,.int .i64 0,.slice none 0 0]
def plB(e:Int):Bool:=decide (0≤e)&&decide (e≤63)
theorem new_ok(p t:Bst)(e:Int)(hK1:usB p t=false→K (.ext (.tuple #[.agg #[.string (bs []),.string (bs []),.int .i64 0,.int .i64 0,.int .i64 0,.int .i64 0,.int .i64 0,.slice none 0 0],.int .i64 1])) [] M)
  (hK2:usB p t=true→plB e=false→K (.ext (.tuple #[.agg #[.string (bs []),.string (bs []),.int .i64 0,.int .i64 0,.int .i64 0,.int .i64 0,.int .i64 0,.slice none 0 0],.int .i64 3])) [] M)
  (hK3:usB p t=true→plB e=true→K (.ext (.tuple #[histV p t e,.int .i64 0])) [] M) :
  CallS Tryz.prog 42 [.ext (nameV p t),.ext (.int .i64 e),.ext (.int .i64 2)] [] M [] K:=by
 refine inlS (cs:=[]) Tryz.mixed Tryz.func42 rfl (by kernel_rfl) 0 rfl rfl ?_
 simp only[Tryz.f42]
 have hu:CallS Tryz.prog 58 [.ext (.agg #[.string (bs p),.string (bs t)])] [] M []=CallS Tryz.prog 58 [.ext (nameV p t)] [] M []:=rfl
 cases hus:usB p t with
 | false=>
  (replace hb0:=true_and True);refine Go1.mk ?_;repeat' ((first|(with_reducible refine Go1.go ?_)|((with_reducible first|refine brv_mk ?_ ?_|refine gsplitD ?_ ?_|refine gsplitG ?_ ?_)<;>intro h<;>(try simp only[Bool.not_eq_true',Bool.not_eq_false']at h)<;>replace hb0:=h)|(((with_reducible refine isCall (f:=58) ?_);refine callA_nil (by kernel_rfl) ?_;refine (usable_ok p t ?_)))|(refine And.intro ?_ ?_;(try simp only[sxO]at *);omega)|fail)<;>(try simp (maxSteps:=1000000) only [hb0,nameV,hus,bs_mk,bs_app,bs_ext,bs_size,bs_toList,bs_at,bs_cells,List.take_length,imp_ga,guard_pk,guard_pk2,↓hold_pre,awayP,runOps,regK,step1,newK,genR,appR,obl,buildR,Value.cells,closeK,keepH,outV,retK,ret1,retC,RetV,Option.getD,runD,stepD,afterK,undef,simprocAttr,sxB,↓sxD,sxE,sxTab]))
  exact hK1 hus
 | true=>
  cases hpl:plB e with
  | true=>
   have hpl2:=hpl
   simp only[plB,Bool.and_eq_true,decide_eq_true_eq]at hpl2
   have d1:decide (e<0)=false:=by simp;omega
   have d2:decide (63<e)=false:=by simp;omega
   (replace hb0:=true_and True);refine Go1.mk ?_;repeat' ((first|(with_reducible refine Go1.go ?_)|((with_reducible first|refine brv_mk ?_ ?_|refine gsplitD ?_ ?_|refine gsplitG ?_ ?_)<;>intro h<;>(try simp only[Bool.not_eq_true',Bool.not_eq_false']at h)<;>replace hb0:=h)|(((with_reducible refine isCall (f:=58) ?_);refine callA_nil (by kernel_rfl) ?_;refine (usable_ok p t ?_)))|(refine And.intro ?_ ?_;(try simp only[sxO]at *);omega)|fail)<;>(try simp (maxSteps:=1000000) only [hb0,nameV,hus,d1,d2,bs_mk,bs_app,bs_ext,bs_size,bs_toList,bs_at,bs_cells,List.take_length,imp_ga,guard_pk,guard_pk2,↓hold_pre,awayP,runOps,regK,step1,newK,genR,appR,obl,buildR,Value.cells,closeK,keepH,outV,retK,ret1,retC,RetV,Option.getD,runD,stepD,afterK,undef,simprocAttr,sxB,↓sxD,sxE,sxTab]))
   exact hK3 hus hpl
  | false=>
   have d1:(decide (e<0) || decide (63<e))=true:=by
    simp only[plB,Bool.and_eq_false_iff,decide_eq_false_iff_not]at hpl
    rw[Bool.or_eq_true,decide_eq_true_eq,decide_eq_true_eq];omega
   (replace hb0:=true_and True);refine Go1.mk ?_;repeat' ((first|(with_reducible refine Go1.go ?_)|((with_reducible first|refine brv_mk ?_ ?_|refine gsplitD ?_ ?_|refine gsplitG ?_ ?_)<;>intro h<;>(try simp only[Bool.not_eq_true',Bool.not_eq_false']at h)<;>replace hb0:=h)|(((with_reducible refine isCall (f:=58) ?_);refine callA_nil (by kernel_rfl) ?_;refine (usable_ok p t ?_)))|(refine And.intro ?_ ?_;(try simp only[sxO]at *);omega)|fail)<;>(try simp (maxSteps:=1000000) only [hb0,nameV,hus,d1,Bool.true_or,bs_mk,bs_app,bs_ext,bs_size,bs_toList,bs_at,bs_cells,List.take_length,imp_ga,guard_pk,guard_pk2,↓hold_pre,awayP,runOps,regK,step1,newK,genR,appR,obl,buildR,Value.cells,closeK,keepH,outV,retK,ret1,retC,RetV,Option.getD,runD,stepD,afterK,undef,simprocAttr,sxB,↓sxD,sxE,sxTab]))
   exact hK2 hus hpl
def faV(p t:Bst)(e:Int)(m:Bst)(u:Value):Value:=.agg #[.string (bs p),.string (bs t),.int .i64 e,.string (bs m),u]
def sgT(m:Bst)(u:Value)(e:Int):Value:=.tuple #[.agg #[.string (bs m),u],.int .i64 e]
theorem sign_ok(p t:Bst)(e:Int)(m:Bst)(u:Value)(X:List Stk)(hu:IsR M 3 clC u X)(hX:X.length<1000000000000000)(hm:m.length<1000000000000000)(hs:∀c∈X,clOk c)
  (hK1:(usB p t&&plB e)=false→K (.ext (sgT [] (.slice none 0 0) 1)) [] M)
  (hK2:(usB p t&&plB e)=true→64<X.length→K (.ext (sgT [] (.slice none 0 0) 2)) [] M)
  (hK3:(usB p t&&plB e)=true→X.length≤64→∀u' M',Mem.le M M'→IsL M' sbV u' (stkB X)→FreshS M u'→K (.ext (sgT (normalB m) u' 0)) [] M') :
  CallS Tryz.prog 24 [.ext (faV p t e m u)] [] M [] K:=by
 refine inlS (cs:=[]) Tryz.mixed Tryz.func24 rfl (by kernel_rfl) 0 rfl rfl ?_
 simp only[Tryz.f24]
 cases hok:(usB p t&&plB e) with
 | false=>
  (replace hb0:=true_and True);refine Go1.mk ?_;repeat' ((first|(with_reducible refine Go1.go ?_)|((with_reducible first|refine brv_mk ?_ ?_|refine gsplitD ?_ ?_|refine gsplitG ?_ ?_)<;>intro h<;>(try simp only[Bool.not_eq_true',Bool.not_eq_false']at h)<;>replace hb0:=h)|(((with_reducible refine isCall (f:=42) ?_);refine callA_nil (by kernel_rfl) ?_;refine (new_ok p t e (fun h1=>?_) (fun h1 h2=>?_) (fun h1 h2=>?_))))|((with_reducible refine isDraw [some 22,some 23,some 24,some 25,some 26,some 27,some 28,none,some 3] (by decide) ?_);refine draw_rule [(0,[]),(1,[]),(3,[1]),(4,[1]),(2,[4]),(5,[]),(6,[]),(7,[]),(8,[])] [[],[0],[0,1],[],[3],[0,1,2,3,4],[0,1,2,3,4,5],[0,1,2,3,4,5,6],[0,1,2,3,4,5,6,7]] [22,23,24,25,26] [] (by kernel_rfl) (by kernel_rfl) (by kernel_rfl) (by kernel_rfl) (by exact trivial) ?_)|(refine And.intro ?_ ?_;(try simp only[sxO]at *);omega)|fail)<;>(try simp (maxSteps:=1000000) only [hb0,faV,hu.one,hu.len,hu.sl,hasK_nil,bs_mk,bs_app,bs_ext,bs_size,bs_toList,bs_at,bs_cells,List.take_length,imp_ga,guard_pk,guard_pk2,↓hold_pre,awayP,runOps,regK,step1,newK,genR,appR,obl,buildR,Value.cells,closeK,keepH,outV,retK,ret1,retC,RetV,Option.getD,runD,stepD,afterK,undef,simprocAttr,sxB,↓sxD,sxE,sxTab]))
  all_goals first
   | exact hK1 hok
   | (rw[h1,h2]at hok;cases hok)
 | true=>
  by_cases hl:64<X.length
  ·have d1:decide ((64:Int)<(X.length:Int))=true:=by simp;omega
   (replace hb0:=true_and True);refine Go1.mk ?_;repeat' ((first|(with_reducible refine Go1.go ?_)|((with_reducible first|refine brv_mk ?_ ?_|refine gsplitD ?_ ?_|refine gsplitG ?_ ?_)<;>intro h<;>(try simp only[Bool.not_eq_true',Bool.not_eq_false']at h)<;>replace hb0:=h)|(((with_reducible refine isCall (f:=42) ?_);refine callA_nil (by kernel_rfl) ?_;refine (new_ok p t e (fun h1=>?_) (fun h1 h2=>?_) (fun h1 h2=>?_))))|((with_reducible refine isDraw [some 22,some 23,some 24,some 25,some 26,some 27,some 28,none,some 3] (by decide) ?_);refine draw_rule [(0,[]),(1,[]),(3,[1]),(4,[1]),(2,[4]),(5,[]),(6,[]),(7,[]),(8,[])] [[],[0],[0,1],[],[3],[0,1,2,3,4],[0,1,2,3,4,5],[0,1,2,3,4,5,6],[0,1,2,3,4,5,6,7]] [22,23,24,25,26] [] (by kernel_rfl) (by kernel_rfl) (by kernel_rfl) (by kernel_rfl) (by exact trivial) ?_)|(refine And.intro ?_ ?_;(try simp only[sxO]at *);omega)|fail)<;>(try simp (maxSteps:=1000000) only [hb0,faV,histV,d1,hu.one,hu.len,hu.sl,hasK_nil,bs_mk,bs_app,bs_ext,bs_size,bs_toList,bs_at,bs_cells,List.take_length,imp_ga,guard_pk,guard_pk2,↓hold_pre,awayP,runOps,regK,step1,newK,genR,appR,obl,buildR,Value.cells,closeK,keepH,outV,retK,ret1,retC,RetV,Option.getD,runD,stepD,afterK,undef,simprocAttr,sxB,↓sxD,sxE,sxTab]))
   all_goals first
    | exact hK2 hok hl
    | (rw[h1]at hok;cases hok)
    | (rw[h1,h2]at hok;cases hok)
  ·have d1:decide ((64:Int)<(X.length:Int))=false:=by simp;omega
   (replace hb0:=true_and True);refine Go1.mk ?_;repeat' ((first|(with_reducible refine Go1.go ?_)|((with_reducible first|refine brv_mk ?_ ?_|refine gsplitD ?_ ?_|refine gsplitG ?_ ?_)<;>intro h<;>(try simp only[Bool.not_eq_true',Bool.not_eq_false']at h)<;>replace hb0:=h)|(((with_reducible refine isCall (f:=42) ?_);refine callA_nil (by kernel_rfl) ?_;refine (new_ok p t e (fun h1=>?_) (fun h1 h2=>?_) (fun h1 h2=>?_))))|(((with_reducible refine isCall0 (f:=43) ?_);refine callA0_nil (by kernel_rfl) ?_;refine (normal_ok m hm (fun M1 hM1=>?_))))|(((with_reducible refine isCall0 (f:=44) ?_);refine callA0_nil (by kernel_rfl) ?_;refine (callsM_ok u X (hu.le hM1) (by omega) hs (fun u2 M2 hM2 h2 hf2=>Stop.mk ?_))))|((with_reducible refine isDraw [some 22,some 23,some 24,some 25,some 26,some 27,some 28,none,some 3] (by decide) ?_);refine draw_rule [(0,[]),(1,[]),(3,[1]),(4,[1]),(2,[4]),(5,[]),(6,[]),(7,[]),(8,[])] [[],[0],[0,1],[],[3],[0,1,2,3,4],[0,1,2,3,4,5],[0,1,2,3,4,5,6],[0,1,2,3,4,5,6,7]] [22,23,24,25,26] [] (by kernel_rfl) (by kernel_rfl) (by kernel_rfl) (by kernel_rfl) (by exact trivial) ?_)|(refine And.intro ?_ ?_;(try simp only[sxO]at *);omega)|fail)<;>(try simp (maxSteps:=1000000) only [hb0,faV,histV,d1,hu.one,hu.len,hu.sl,hasK_nil,bs_mk,bs_app,bs_ext,bs_size,bs_toList,bs_at,bs_cells,List.take_length,imp_ga,guard_pk,guard_pk2,↓hold_pre,awayP,runOps,regK,step1,newK,genR,appR,obl,buildR,Value.cells,closeK,keepH,outV,retK,ret1,retC,RetV,Option.getD,runD,stepD,afterK,undef,simprocAttr,sxB,↓sxD,sxE,sxTab]))
   ·rw[h1]at hok;cases hok
   ·rw[h1,h2]at hok;cases hok
   ·have hM1:Mem.le M M1:=hM1
    have hM2:Mem.le M1 M2:=hM2
    exact Stop.go ⟨h2.one,h2.one,hK3 hok (by omega) _ _ (hM1.trans hM2) h2 (hf2.le hM1)⟩
end
def digC:Bst:=[48,49,50,51,52,53,54,55,56,57]
def hexC:Bst:=[48,49,50,51,52,53,54,55,56,57,97,98,99,100,101,102,65,66,67,68,69,70]
def letC:Bst:=[97,98,99,100,101,102,103,104,105,106,107,108,109,110,111,112,113,114,115,116,117,118,119,120,121,122,65,66,67,68,69,70,71,72,73,74,75,76,77,78,79,80,81,82,83,84,85,86,87,88,89,90]
def wordC:Bst:=[97,98,99,100,101,102,103,104,105,106,107,108,109,110,111,112,113,114,115,116,117,118,119,120,121,122,65,66,67,68,69,70,71,72,73,74,75,76,77,78,79,80,81,82,83,84,85,86,87,88,89,90,48,49,50,51,52,53,54,55,56,57,95]
def pathC:Bst:=[97,98,99,100,101,102,103,104,105,106,107,108,109,110,111,112,113,114,115,116,117,118,119,120,121,122,65,66,67,68,69,70,71,72,73,74,75,76,77,78,79,80,81,82,83,84,85,86,87,88,89,90,48,49,50,51,52,53,54,55,56,57,95,46,45,47]
def blaC:Bst:=[32,9,13]
def letB(b:UInt8):Bool:=inR b 97 122 || inR b 65 90
theorem digC_is(b:UInt8):digC.contains b=digB b:=by
 have:=u8_all (P:=fun b=>digC.contains b==digB b) (by decide +kernel) b
 simpa using this
theorem hexC_is(b:UInt8):hexC.contains b=hexB b:=by
 have:=u8_all (P:=fun b=>hexC.contains b==hexB b) (by decide +kernel) b
 simpa using this
theorem letC_is(b:UInt8):letC.contains b=letB b:=by
 have:=u8_all (P:=fun b=>letC.contains b==letB b) (by decide +kernel) b
 simpa using this
theorem wordC_is(b:UInt8):wordC.contains b=wordB b:=by
 have:=u8_all (P:=fun b=>wordC.contains b==wordB b) (by decide +kernel) b
 simpa using this
theorem pathC_is(b:UInt8):pathC.contains b=pathB b:=by
 have:=u8_all (P:=fun b=>pathC.contains b==pathB b) (by decide +kernel) b
 simpa using this
theorem blaC_is(b:UInt8):blaC.contains b=blankB b:=by
 have:=u8_all (P:=fun b=>blaC.contains b==blankB b) (by decide +kernel) b
 simpa using this
theorem hex_let{b:UInt8}(h:hexB b=true):digB b=true∨letB b=true:=by
 have:=u8_all (P:=fun b=>!(hexB b) || (digB b || letB b)) (by decide +kernel) b
 simpa [h] using this
theorem ix_ge(C:Bst)(b:UInt8):decide (0≤Lib.indexByte C b)=C.contains b:=by rw[←Lib.contains_iff_indexByte]
theorem ix_lt(C:Bst)(b:UInt8):decide (Lib.indexByte C b<0) = !(C.contains b):=by
 rw[←ix_ge]
 by_cases h:0≤Lib.indexByte C b
 ·simp[h]
 ·have:Lib.indexByte C b<0:=by omega
  simp[h,this]
theorem tw_all{p:UInt8→Bool}(l:Bst):decide (((l.takeWhile p).length:Int)=(l.length:Int))=l.all p:=by
 rw[Bool.eq_iff_iff,decide_eq_true_eq,List.all_eq_true]
 constructor
 ·intro h b hb
  have e:=List.takeWhile_append_dropWhile (p:=p) (l:=l)
  have h1:=congrArg List.length e
  rw[List.length_append]at h1
  have h2:l.dropWhile p=[]:=List.length_eq_zero_iff.1 (by omega)
  rw[h2,List.append_nil]at e
  rw[←e]at hb
  exact mem_tw hb
 ·intro h
  have e:=(tw_app (p:=p) (w:=l) (x:=[]) h (fun b hb=>by simp at hb)).1
  rw[List.append_nil]at e
  rw[e]
def rnumB(l:Bst):Bool:=
 l.all digB || (if decide (2<l.length)&&(l.take 2==[48,120] || l.take 2==[48,88]) then (l.drop 2).all hexB else decide (8≤l.length)&&l.all hexB&&l.any digB&&l.any letB)
theorem rnum_num(l:Bst):rnumB l=numB l:=by
 unfold rnumB numB
 cases h:l.all digB with
 | true=>rfl
 | false=>
  simp only[Bool.false_or]
  split
  ·rfl
  ·rw[Bool.eq_iff_iff]
   simp only[Bool.and_eq_true]
   constructor
   ·rintro ⟨⟨⟨a,b⟩,c⟩,_⟩;exact ⟨a,b,c⟩
   ·rintro ⟨a,b,c⟩
    refine ⟨⟨⟨a,b⟩,c⟩,?_⟩
    rw[List.all_eq_false]at h
    obtain ⟨x,hx,hd⟩:=h
    rw[List.any_eq_true]
    exact ⟨x,hx,(hex_let (List.all_eq_true.1 b x hx)).resolve_left (by simpa using hd)⟩
section
variable {M:Mem}{K:AV→Hp→Mem→Prop}
theorem ixB_ok(C:Bst)(b:UInt8)(hK:K (.ext (.int .i64 (Lib.indexByte C b))) [] M):CallS Tryz.prog 81 [.ext (.string (bs C)),.ext (.int .u8 (b.toNat:Int))] [] M [] K:=by
 refine callS_of (us:=[.string (bs C),.int .u8 (b.toNat:Int)]) (fun w=>(Tryz.strings_IndexByte (bs C) (b.toNat:Int) w).mono fun e w' h=>⟨h.1,h.2▸Below.refl _ _⟩) ?_
 have e:((b.toNat:Int)).toNat.toUInt8=b:=by simp
 rw[e];exact hK
def spSt(M:Mem)(l C:Bst)(i:Nat):St:={env:=[(5,.ext (.int .i64 (i:Int))),(1,.ext (.string (bs C))),(0,.ext (.string (bs l)))],hp:=[],M:=M,kb:=0,fx:=[]}
theorem span_ok(l C:Bst)(p:UInt8→Bool)(hp:∀b,C.contains b=p b)(hl:l.length<1000000000)(hK:K (.ext (.int .i64 ((l.takeWhile p).length:Int))) [] M):CallS Tryz.prog 70 [.ext (.string (bs l)),.ext (.string (bs C))] [] M [] K:=by
 refine inlS (cs:=[]) Tryz.mixed Tryz.func70 rfl (by kernel_rfl) 0 rfl rfl ?_
 simp only[Tryz.f70]
 (replace hb0:=true_and True);refine Go1.mk ?_;repeat' ((first|(with_reducible refine Go1.go ?_)|((with_reducible first|refine brv_mk ?_ ?_|refine gsplitD ?_ ?_|refine gsplitG ?_ ?_)<;>intro h<;>(try simp only[Bool.not_eq_true',Bool.not_eq_false']at h)<;>replace hb0:=h)|(refine And.intro ?_ ?_;(try simp only[sxO]at *);omega)|fail)<;>(try simp (maxSteps:=1000000) only [hb0,bs_mk,bs_app,bs_ext,bs_size,bs_toList,bs_at,bs_cells,List.take_length,imp_ga,guard_pk,guard_pk2,↓hold_pre,awayP,runOps,regK,step1,newK,genR,appR,obl,buildR,Value.cells,closeK,keepH,outV,retK,ret1,retC,RetV,Option.getD,runD,stepD,afterK,undef,simprocAttr,sxB,↓sxD,sxE,sxTab]))
 refine ⟨fun m z=>∃i,i≤l.length∧(∀j (h:j<l.length),j<i→p l[j]=true)∧m=l.length-i∧z=spSt M l C i,⟨l.length,spSt M l C 0,le_sub ⟨rfl,rfl,rfl,trivial⟩ trivial rfl rfl rfl (keepLt0 _),⟨0,by omega,fun _ _ h=>by omega,rfl,rfl⟩⟩,?_⟩
 rintro m z ⟨i,hi,hpre,rfl,rfl⟩
 by_cases hlt:i<l.length
 ·have d1:decide ((i:Int)<(l.length:Int))=true:=by simp;omega
  have a1:(0:Int)≤(i:Int):=by omega
  have a2:(i:Int)<(l.length:Int):=by omega
  have g1:=getD_of hlt
  have c1:=ix_lt C l[i]
  rw[hp]at c1
  have w2:IntKind.i64.wrap ((i:Int)+1)=((i+1:Nat):Int):=by rw[wrap_id (by omega) (by omega)];omega
  cases hpi:p l[i] with
  | true=>
   rw[hpi]at c1
   (replace hb0:=true_and True);refine Go1.mk ?_;repeat' ((first|(with_reducible refine Go1.go ?_)|((with_reducible first|refine brv_mk ?_ ?_|refine gsplitD ?_ ?_|refine gsplitG ?_ ?_)<;>intro h<;>(try simp only[Bool.not_eq_true',Bool.not_eq_false']at h)<;>replace hb0:=h)|(((with_reducible refine isCall (f:=81) ?_);refine callA_nil (by kernel_rfl) ?_;refine (ixB_ok C l[i] ?_)))|(refine And.intro ?_ ?_;(try simp only[sxO]at *);omega)|fail)<;>(try simp (maxSteps:=1000000) only [hb0,spSt,d1,w2,a1,a2,g1,c1,Bool.not_true,bs_mk,bs_app,bs_ext,bs_size,bs_toList,bs_at,bs_cells,List.take_length,imp_ga,guard_pk,guard_pk2,↓hold_pre,awayP,runOps,regK,step1,newK,genR,appR,obl,buildR,Value.cells,closeK,keepH,outV,retK,ret1,retC,RetV,Option.getD,runD,stepD,afterK,undef,simprocAttr,sxB,↓sxD,sxE,sxTab]))
   exact ⟨l.length-(i+1),spSt M l C (i+1),by omega,le_sub ⟨rfl,rfl,rfl,trivial⟩ trivial rfl rfl rfl (keepLt0 _),i+1,by omega,fun j h hj=>by
    by_cases e:j=i
    ·subst e;exact hpi
    ·exact hpre j h (by omega),rfl,rfl⟩
  | false=>
   rw[hpi]at c1
   rw[tw_len hi hpre fun _=>hpi]at hK
   (replace hb0:=true_and True);refine Go1.mk ?_;repeat' ((first|(with_reducible refine Go1.go ?_)|((with_reducible first|refine brv_mk ?_ ?_|refine gsplitD ?_ ?_|refine gsplitG ?_ ?_)<;>intro h<;>(try simp only[Bool.not_eq_true',Bool.not_eq_false']at h)<;>replace hb0:=h)|(((with_reducible refine isCall (f:=81) ?_);refine callA_nil (by kernel_rfl) ?_;refine (ixB_ok C l[i] ?_)))|(refine And.intro ?_ ?_;(try simp only[sxO]at *);omega)|fail)<;>(try simp (maxSteps:=1000000) only [hb0,spSt,d1,w2,a1,a2,g1,c1,Bool.not_false,bs_mk,bs_app,bs_ext,bs_size,bs_toList,bs_at,bs_cells,List.take_length,imp_ga,guard_pk,guard_pk2,↓hold_pre,awayP,runOps,regK,step1,newK,genR,appR,obl,buildR,Value.cells,closeK,keepH,outV,retK,ret1,retC,RetV,Option.getD,runD,stepD,afterK,undef,simprocAttr,sxB,↓sxD,sxE,sxTab]))
   exact hK
 ·obtain rfl:i=l.length:=by omega
  have d1:decide ((l.length:Int)<(l.length:Int))=false:=by simp
  rw[tw_len (Nat.le_refl _) hpre fun h=>absurd h hlt]at hK
  (replace hb0:=true_and True);refine Go1.mk ?_;repeat' ((first|(with_reducible refine Go1.go ?_)|((with_reducible first|refine brv_mk ?_ ?_|refine gsplitD ?_ ?_|refine gsplitG ?_ ?_)<;>intro h<;>(try simp only[Bool.not_eq_true',Bool.not_eq_false']at h)<;>replace hb0:=h)|(refine And.intro ?_ ?_;(try simp only[sxO]at *);omega)|fail)<;>(try simp (maxSteps:=1000000) only [hb0,spSt,d1,bs_mk,bs_app,bs_ext,bs_size,bs_toList,bs_at,bs_cells,List.take_length,imp_ga,guard_pk,guard_pk2,↓hold_pre,awayP,runOps,regK,step1,newK,genR,appR,obl,buildR,Value.cells,closeK,keepH,outV,retK,ret1,retC,RetV,Option.getD,runD,stepD,afterK,undef,simprocAttr,sxB,↓sxD,sxE,sxTab]))
  exact hK
theorem refAll_ok(l C:Bst)(p:UInt8→Bool)(hp:∀b,C.contains b=p b)(hl:l.length<1000000000)(hK:K (.ext (.bool (l.all p))) [] M):CallS Tryz.prog 104 [.ext (.string (bs l)),.ext (.string (bs C))] [] M [] K:=by
 refine inlS (cs:=[]) Tryz.mixed Tryz.func104 rfl (by kernel_rfl) 0 rfl rfl ?_
 simp only[Tryz.f104]
 rw[←tw_all]at hK
 (replace hb0:=true_and True);refine Go1.mk ?_;repeat' ((first|(with_reducible refine Go1.go ?_)|((with_reducible first|refine brv_mk ?_ ?_|refine gsplitD ?_ ?_|refine gsplitG ?_ ?_)<;>intro h<;>(try simp only[Bool.not_eq_true',Bool.not_eq_false']at h)<;>replace hb0:=h)|(((with_reducible refine isCall (f:=70) ?_);refine callA_nil (by kernel_rfl) ?_;refine (span_ok l C p hp hl ?_)))|(refine And.intro ?_ ?_;(try simp only[sxO]at *);omega)|fail)<;>(try simp (maxSteps:=1000000) only [hb0,bs_mk,bs_app,bs_ext,bs_size,bs_toList,bs_at,bs_cells,List.take_length,imp_ga,guard_pk,guard_pk2,↓hold_pre,awayP,runOps,regK,step1,newK,genR,appR,obl,buildR,Value.cells,closeK,keepH,outV,retK,ret1,retC,RetV,Option.getD,runD,stepD,afterK,undef,simprocAttr,sxB,↓sxD,sxE,sxTab]))
 exact hK
theorem refSome_ok(l C:Bst)(p:UInt8→Bool)(hp:∀b,C.contains b=p b)(hl:l.length<1000000000)(hK:K (.ext (.bool (l.any p))) [] M):CallS Tryz.prog 105 [.ext (.string (bs l)),.ext (.string (bs C))] [] M [] K:=by
 refine inlS (cs:=[]) Tryz.mixed Tryz.func105 rfl (by kernel_rfl) 0 rfl rfl ?_
 simp only[Tryz.f105]
 (replace hb0:=true_and True);refine Go1.mk ?_;repeat' ((first|(with_reducible refine Go1.go ?_)|((with_reducible first|refine brv_mk ?_ ?_|refine gsplitD ?_ ?_|refine gsplitG ?_ ?_)<;>intro h<;>(try simp only[Bool.not_eq_true',Bool.not_eq_false']at h)<;>replace hb0:=h)|(refine And.intro ?_ ?_;(try simp only[sxO]at *);omega)|fail)<;>(try simp (maxSteps:=1000000) only [hb0,bs_mk,bs_app,bs_ext,bs_size,bs_toList,bs_at,bs_cells,List.take_length,imp_ga,guard_pk,guard_pk2,↓hold_pre,awayP,runOps,regK,step1,newK,genR,appR,obl,buildR,Value.cells,closeK,keepH,outV,retK,ret1,retC,RetV,Option.getD,runD,stepD,afterK,undef,simprocAttr,sxB,↓sxD,sxE,sxTab]))
 refine ⟨fun m z=>∃i,i≤l.length∧(∀j (h:j<l.length),j<i→p l[j]=false)∧m=l.length-i∧z=spSt M l C i,⟨l.length,spSt M l C 0,le_sub ⟨rfl,rfl,rfl,trivial⟩ trivial rfl rfl rfl (keepLt0 _),⟨0,by omega,fun _ _ h=>by omega,rfl,rfl⟩⟩,?_⟩
 rintro m z ⟨i,hi,hpre,rfl,rfl⟩
 by_cases hlt:i<l.length
 ·have d1:decide ((i:Int)<(l.length:Int))=true:=by simp;omega
  have a1:(0:Int)≤(i:Int):=by omega
  have a2:(i:Int)<(l.length:Int):=by omega
  have g1:=getD_of hlt
  have c1:=ix_ge C l[i]
  rw[hp]at c1
  have w2:IntKind.i64.wrap ((i:Int)+1)=((i+1:Nat):Int):=by rw[wrap_id (by omega) (by omega)];omega
  cases hpi:p l[i] with
  | false=>
   rw[hpi]at c1
   (replace hb0:=true_and True);refine Go1.mk ?_;repeat' ((first|(with_reducible refine Go1.go ?_)|((with_reducible first|refine brv_mk ?_ ?_|refine gsplitD ?_ ?_|refine gsplitG ?_ ?_)<;>intro h<;>(try simp only[Bool.not_eq_true',Bool.not_eq_false']at h)<;>replace hb0:=h)|(((with_reducible refine isCall (f:=81) ?_);refine callA_nil (by kernel_rfl) ?_;refine (ixB_ok C l[i] ?_)))|(refine And.intro ?_ ?_;(try simp only[sxO]at *);omega)|fail)<;>(try simp (maxSteps:=1000000) only [hb0,spSt,d1,w2,a1,a2,g1,c1,bs_mk,bs_app,bs_ext,bs_size,bs_toList,bs_at,bs_cells,List.take_length,imp_ga,guard_pk,guard_pk2,↓hold_pre,awayP,runOps,regK,step1,newK,genR,appR,obl,buildR,Value.cells,closeK,keepH,outV,retK,ret1,retC,RetV,Option.getD,runD,stepD,afterK,undef,simprocAttr,sxB,↓sxD,sxE,sxTab]))
   exact ⟨l.length-(i+1),spSt M l C (i+1),by omega,le_sub ⟨rfl,rfl,rfl,trivial⟩ trivial rfl rfl rfl (keepLt0 _),i+1,by omega,fun j h hj=>by
    by_cases e:j=i
    ·subst e;exact hpi
    ·exact hpre j h (by omega),rfl,rfl⟩
  | true=>
   rw[hpi]at c1
   have e:l.any p=true:=List.any_eq_true.2 ⟨l[i],List.getElem_mem hlt,hpi⟩
   rw[e]at hK
   (replace hb0:=true_and True);refine Go1.mk ?_;repeat' ((first|(with_reducible refine Go1.go ?_)|((with_reducible first|refine brv_mk ?_ ?_|refine gsplitD ?_ ?_|refine gsplitG ?_ ?_)<;>intro h<;>(try simp only[Bool.not_eq_true',Bool.not_eq_false']at h)<;>replace hb0:=h)|(((with_reducible refine isCall (f:=81) ?_);refine callA_nil (by kernel_rfl) ?_;refine (ixB_ok C l[i] ?_)))|(refine And.intro ?_ ?_;(try simp only[sxO]at *);omega)|fail)<;>(try simp (maxSteps:=1000000) only [hb0,spSt,d1,w2,a1,a2,g1,c1,bs_mk,bs_app,bs_ext,bs_size,bs_toList,bs_at,bs_cells,List.take_length,imp_ga,guard_pk,guard_pk2,↓hold_pre,awayP,runOps,regK,step1,newK,genR,appR,obl,buildR,Value.cells,closeK,keepH,outV,retK,ret1,retC,RetV,Option.getD,runD,stepD,afterK,undef,simprocAttr,sxB,↓sxD,sxE,sxTab]))
   exact hK
 ·obtain rfl:i=l.length:=by omega
  have d1:decide ((l.length:Int)<(l.length:Int))=false:=by simp
  have e:l.any p=false:=by
   rw[List.any_eq_false]
   intro x hx
   obtain ⟨j,hj,rfl⟩:=List.mem_iff_getElem.1 hx
   simp[hpre j hj hj]
  rw[e]at hK
  (replace hb0:=true_and True);refine Go1.mk ?_;repeat' ((first|(with_reducible refine Go1.go ?_)|((with_reducible first|refine brv_mk ?_ ?_|refine gsplitD ?_ ?_|refine gsplitG ?_ ?_)<;>intro h<;>(try simp only[Bool.not_eq_true',Bool.not_eq_false']at h)<;>replace hb0:=h)|(refine And.intro ?_ ?_;(try simp only[sxO]at *);omega)|fail)<;>(try simp (maxSteps:=1000000) only [hb0,spSt,d1,bs_mk,bs_app,bs_ext,bs_size,bs_toList,bs_at,bs_cells,List.take_length,imp_ga,guard_pk,guard_pk2,↓hold_pre,awayP,runOps,regK,step1,newK,genR,appR,obl,buildR,Value.cells,closeK,keepH,outV,retK,ret1,retC,RetV,Option.getD,runD,stepD,afterK,undef,simprocAttr,sxB,↓sxD,sxE,sxTab]))
  exact hK
theorem refNumber_ok(l:Bst)(hl:l.length<1000000000)(hK:K (.ext (.bool (numB l))) [] M):CallS Tryz.prog 99 [.ext (.string (bs l))] [] M [] K:=by
 refine inlS (cs:=[]) Tryz.mixed Tryz.func99 rfl (by kernel_rfl) 0 rfl rfl ?_
 simp only[Tryz.f99]
 rw[←rnum_num]at hK
 generalize hr:rnumB l=r at hK
 have t1:([48,49,50,51,52,53,54,55,56,57]:List UInt8)=digC:=rfl
 have t2:([48,49,50,51,52,53,54,55,56,57,97,98,99,100,101,102,65,66,67,68,69,70]:List UInt8)=hexC:=rfl
 have t3:([97,98,99,100,101,102,103,104,105,106,107,108,109,110,111,112,113,114,115,116,117,118,119,120,121,122,65,66,67,68,69,70,71,72,73,74,75,76,77,78,79,80,81,82,83,84,85,86,87,88,89,90]:List UInt8)=letC:=rfl
 (replace hb0:=true_and True);refine Go1.mk ?_;repeat' ((first|(with_reducible refine Go1.go ?_)|((with_reducible first|refine brv_mk ?_ ?_|refine gsplitD ?_ ?_|refine gsplitG ?_ ?_)<;>intro h<;>(try simp only[Bool.not_eq_true',Bool.not_eq_false']at h)<;>replace hb0:=h)|(((with_reducible refine isCall (f:=104) ?_);refine callA_nil (by kernel_rfl) ?_;refine (refAll_ok _ digC digB digC_is (by first|omega|(simp;omega)) ?_)))|(((with_reducible refine isCall (f:=104) ?_);refine callA_nil (by kernel_rfl) ?_;refine (refAll_ok _ hexC hexB hexC_is (by first|omega|(simp;omega)) ?_)))|(((with_reducible refine isCall (f:=105) ?_);refine callA_nil (by kernel_rfl) ?_;refine (refSome_ok _ digC digB digC_is (by first|omega|(simp;omega)) ?_)))|(((with_reducible refine isCall (f:=105) ?_);refine callA_nil (by kernel_rfl) ?_;refine (refSome_ok _ letC letB letC_is (by first|omega|(simp;omega)) ?_)))|(refine And.intro ?_ ?_;(try simp only[sxO]at *);omega)|fail)<;>(try simp (maxSteps:=1000000) only [hb0,bs_mk,bs_app,bs_ext,bs_size,bs_toList,bs_at,bs_cells,List.take_length,imp_ga,guard_pk,guard_pk2,List.take_length,t1,t2,t3,↓hold_pre,awayP,runOps,regK,step1,newK,genR,appR,obl,buildR,Value.cells,closeK,keepH,outV,retK,ret1,retC,RetV,Option.getD,runD,stepD,afterK,undef,simprocAttr,sxB,↓sxD,sxE,sxTab]))
 all_goals
  have e2:decide (2<l.length)=decide ((2:Int)<(l.length:Int)):=by rw[decide_eq_decide];omega
  have e8:decide (8≤l.length)=decide ((8:Int)≤(l.length:Int)):=by rw[decide_eq_decide];omega
  unfold rnumB at hr
  rw[e2,e8]at hr
  simp only[*,Bool.true_or,Bool.false_or,if_true,if_false,Bool.true_and,Bool.false_and,Bool.and_false,Bool.and_true,Bool.false_eq_true]at hr
  subst hr
  exact hK
def rwSt(M:Mem)(r o:Bst):St:={env:=[(3,.ext (.string (bs o))),(0,.ext (.string (bs r)))],hp:=[],M:=M,kb:=0,fx:=[]}
theorem refWords_ok(l:Bst)(hl:l.length<1000000)(hK:K (.ext (.string (bs (wordsB l)))) [] M):CallS Tryz.prog 82 [.ext (.string (bs l))] [] M [] K:=by
 refine inlS (cs:=[]) Tryz.mixed Tryz.func82 rfl (by kernel_rfl) 0 rfl rfl ?_
 simp only[Tryz.f82]
 have t1:([97,98,99,100,101,102,103,104,105,106,107,108,109,110,111,112,113,114,115,116,117,118,119,120,121,122,65,66,67,68,69,70,71,72,73,74,75,76,77,78,79,80,81,82,83,84,85,86,87,88,89,90,48,49,50,51,52,53,54,55,56,57,95]:List UInt8)=wordC:=rfl
 (replace hb0:=true_and True);refine Go1.mk ?_;repeat' ((first|(with_reducible refine Go1.go ?_)|((with_reducible first|refine brv_mk ?_ ?_|refine gsplitD ?_ ?_|refine gsplitG ?_ ?_)<;>intro h<;>(try simp only[Bool.not_eq_true',Bool.not_eq_false']at h)<;>replace hb0:=h)|((with_reducible refine isDraw [some 21,some 22,some 23,some 24,some 25,some 26,some 3,some 0] (by decide) ?_);refine draw_rule [(0,[]),(1,[]),(2,[]),(3,[]),(4,[2]),(5,[2]),(6,[5]),(7,[])] [[],[],[1],[0,1,2],[],[4],[0,1,2,3],[0,1,2,3,4,5,6]] [21,22,23,24,25,26] [3] (by kernel_rfl) (by kernel_rfl) (by kernel_rfl) (by kernel_rfl) (by exact ⟨rfl,trivial⟩) ?_)|((with_reducible refine isDraw [some 32,some 33,some 34,some 35,some 36,some 3,some 0] (by decide) ?_);refine draw_rule [(0,[]),(1,[]),(2,[]),(3,[]),(4,[]),(5,[4]),(6,[])] [[],[0],[],[],[2,3],[0,1],[0,1,2,3,4,5]] [32,33,34,35,36] [3] (by kernel_rfl) (by kernel_rfl) (by kernel_rfl) (by kernel_rfl) (by exact ⟨rfl,trivial⟩) ?_)|((with_reducible refine isDraw [some 10,some 11,some 12,some 13,some 14,some 15,some 16,some 17,some 3,some 0] (by decide) ?_);refine draw_rule [(0,[]),(1,[]),(2,[]),(3,[]),(4,[]),(5,[3]),(6,[3]),(7,[3]),(8,[7]),(9,[])] [[],[],[],[1,2],[0,1,2,3],[],[],[5,6],[0,1,2,3,4],[0,1,2,3,4,5,6,7,8]] [10,11,12,13,14,15,16,17] [3] (by kernel_rfl) (by kernel_rfl) (by kernel_rfl) (by kernel_rfl) (by exact ⟨rfl,trivial⟩) ?_)|(refine And.intro ?_ ?_;(try simp only[sxO]at *);omega)|fail)<;>(try simp (maxSteps:=1000000) only [hb0,bs_mk,bs_app,bs_ext,bs_size,bs_toList,bs_at,bs_cells,List.take_length,imp_ga,guard_pk,guard_pk2,↓hold_pre,awayP,runOps,regK,step1,newK,genR,appR,obl,buildR,Value.cells,closeK,keepH,outV,retK,ret1,retC,RetV,Option.getD,runD,stepD,afterK,undef,simprocAttr,sxB,↓sxD,sxE,sxTab]))
 refine ⟨fun m z=>∃o r,o.length+r.length<1000000∧o++wordsB r=wordsB l∧m=r.length∧z=rwSt M r o,⟨l.length,rwSt M l [],le_sub ⟨rfl,rfl,trivial⟩ trivial rfl rfl rfl (keepLt0 _),⟨[],l,by simpa using hl,rfl,rfl,rfl⟩⟩,?_⟩
 rintro m z ⟨o,r,hlen,hrel,rfl,rfl⟩
 cases r with
 | nil=>
  have e0:o=wordsB l:=by rw[←hrel];simp[wordsB]
  rw[←e0]at hK
  have d0:decide ((0:Int)<((0:Nat):Int))=false:=by decide
  (replace hb0:=true_and True);refine Go1.mk ?_;repeat' ((first|(with_reducible refine Go1.go ?_)|((with_reducible first|refine brv_mk ?_ ?_|refine gsplitD ?_ ?_|refine gsplitG ?_ ?_)<;>intro h<;>(try simp only[Bool.not_eq_true',Bool.not_eq_false']at h)<;>replace hb0:=h)|((with_reducible refine isDraw [some 21,some 22,some 23,some 24,some 25,some 26,some 3,some 0] (by decide) ?_);refine draw_rule [(0,[]),(1,[]),(2,[]),(3,[]),(4,[2]),(5,[2]),(6,[5]),(7,[])] [[],[],[1],[0,1,2],[],[4],[0,1,2,3],[0,1,2,3,4,5,6]] [21,22,23,24,25,26] [3] (by kernel_rfl) (by kernel_rfl) (by kernel_rfl) (by kernel_rfl) (by exact ⟨rfl,trivial⟩) ?_)|((with_reducible refine isDraw [some 32,some 33,some 34,some 35,some 36,some 3,some 0] (by decide) ?_);refine draw_rule [(0,[]),(1,[]),(2,[]),(3,[]),(4,[]),(5,[4]),(6,[])] [[],[0],[],[],[2,3],[0,1],[0,1,2,3,4,5]] [32,33,34,35,36] [3] (by kernel_rfl) (by kernel_rfl) (by kernel_rfl) (by kernel_rfl) (by exact ⟨rfl,trivial⟩) ?_)|((with_reducible refine isDraw [some 10,some 11,some 12,some 13,some 14,some 15,some 16,some 17,some 3,some 0] (by decide) ?_);refine draw_rule [(0,[]),(1,[]),(2,[]),(3,[]),(4,[]),(5,[3]),(6,[3]),(7,[3]),(8,[7]),(9,[])] [[],[],[],[1,2],[0,1,2,3],[],[],[5,6],[0,1,2,3,4],[0,1,2,3,4,5,6,7,8]] [10,11,12,13,14,15,16,17] [3] (by kernel_rfl) (by kernel_rfl) (by kernel_rfl) (by kernel_rfl) (by exact ⟨rfl,trivial⟩) ?_)|(refine And.intro ?_ ?_;(try simp only[sxO]at *);omega)|fail)<;>(try simp (maxSteps:=1000000) only [hb0,rwSt,d0,bs_mk,bs_app,bs_ext,bs_size,bs_toList,bs_at,bs_cells,List.take_length,imp_ga,guard_pk,guard_pk2,↓hold_pre,awayP,runOps,regK,step1,newK,genR,appR,obl,buildR,Value.cells,closeK,keepH,outV,retK,ret1,retC,RetV,Option.getD,runD,stepD,afterK,undef,simprocAttr,sxB,↓sxD,sxE,sxTab]))
  exact hK
 | cons c t=>
  have a0:decide ((0:Int)<(((c :: t).length:Nat):Int))=true:=by simp
  have a1:(1:Int)≤(((c :: t).length:Nat):Int):=by simp only[List.length_cons];omega
  have a2:(0:Int)≤(((c :: t).length:Nat):Int):=by omega
  cases hc:wordB c with
  | false=>
   have n0:((c :: t).takeWhile wordB).length=0:=by rw[List.takeWhile_cons_of_neg (by simp[hc])];rfl
   have hw:wordsB (c :: t)=c :: wordsB t:=words_cons hc
   have n1:decide (((0:Nat):Int)=0)=true:=by decide
   have x1:(c :: t).take 1=[c]:=rfl
   have x2:(c :: t).drop 1=t:=rfl
   have g1:(((o.length+[c].length:Nat):Int)≤9223372036854775807)=True:=by simp at hlen ⊢;omega
   have hpos:0<(c :: t).length:=by simp
   have htl:t.length<(c :: t).length:=by simp
   have hol:o.length+(t.length+1)<1000000:=by simpa using hlen
   generalize hct:c :: t=L at *
   (replace hb0:=true_and True);refine Go1.mk ?_;repeat' ((first|(with_reducible refine Go1.go ?_)|((with_reducible first|refine brv_mk ?_ ?_|refine gsplitD ?_ ?_|refine gsplitG ?_ ?_)<;>intro h<;>(try simp only[Bool.not_eq_true',Bool.not_eq_false']at h)<;>replace hb0:=h)|(((with_reducible refine isCall (f:=70) ?_);refine callA_nil (by kernel_rfl) ?_;refine (span_ok _ wordC wordB wordC_is (by omega) ?_)))|((with_reducible refine isDraw [some 21,some 22,some 23,some 24,some 25,some 26,some 3,some 0] (by decide) ?_);refine draw_rule [(0,[]),(1,[]),(2,[]),(3,[]),(4,[2]),(5,[2]),(6,[5]),(7,[])] [[],[],[1],[0,1,2],[],[4],[0,1,2,3],[0,1,2,3,4,5,6]] [21,22,23,24,25,26] [3] (by kernel_rfl) (by kernel_rfl) (by kernel_rfl) (by kernel_rfl) (by exact ⟨rfl,trivial⟩) ?_)|((with_reducible refine isDraw [some 32,some 33,some 34,some 35,some 36,some 3,some 0] (by decide) ?_);refine draw_rule [(0,[]),(1,[]),(2,[]),(3,[]),(4,[]),(5,[4]),(6,[])] [[],[0],[],[],[2,3],[0,1],[0,1,2,3,4,5]] [32,33,34,35,36] [3] (by kernel_rfl) (by kernel_rfl) (by kernel_rfl) (by kernel_rfl) (by exact ⟨rfl,trivial⟩) ?_)|((with_reducible refine isDraw [some 10,some 11,some 12,some 13,some 14,some 15,some 16,some 17,some 3,some 0] (by decide) ?_);refine draw_rule [(0,[]),(1,[]),(2,[]),(3,[]),(4,[]),(5,[3]),(6,[3]),(7,[3]),(8,[7]),(9,[])] [[],[],[],[1,2],[0,1,2,3],[],[],[5,6],[0,1,2,3,4],[0,1,2,3,4,5,6,7,8]] [10,11,12,13,14,15,16,17] [3] (by kernel_rfl) (by kernel_rfl) (by kernel_rfl) (by kernel_rfl) (by exact ⟨rfl,trivial⟩) ?_)|(refine And.intro ?_ ?_;(try simp only[sxO]at *);omega)|fail)<;>(try simp (maxSteps:=1000000) only [hb0,rwSt,t1,a0,a1,n0,n1,x1,x2,g1,Int.toNat_one,Int.toNat_zero,Int.cast_ofNat_Int,bs_mk,bs_app,bs_ext,bs_size,bs_toList,bs_at,bs_cells,List.take_length,imp_ga,guard_pk,guard_pk2,↓hold_pre,awayP,runOps,regK,step1,newK,genR,appR,obl,buildR,Value.cells,closeK,keepH,outV,retK,ret1,retC,RetV,Option.getD,runD,stepD,afterK,undef,simprocAttr,sxB,↓sxD,sxE,sxTab]))
   exact ⟨t.length,rwSt M t (o++[c]),htl,le_sub ⟨rfl,rfl,trivial⟩ trivial rfl rfl rfl (keepLt0 _),o++[c],t,by simp;omega,by rw[←hrel,hw];simp,rfl,rfl⟩
  | true=>
   have hdl:=dropW_lt (r:=t) hc
   have hw:wordsB (c :: t)=(if numB ((c :: t).takeWhile wordB) then [35] else (c :: t).takeWhile wordB)++wordsB ((c :: t).dropWhile wordB):=by rw[wordsB,dif_pos hc]
   have hpos:0<((c :: t).takeWhile wordB).length:=by rw[List.takeWhile_cons_of_pos hc];simp
   have hadd:=congrArg List.length (List.takeWhile_append_dropWhile (p:=wordB) (l:=c :: t))
   rw[List.length_append]at hadd
   have x1:=take_tw (p:=wordB) (c :: t)
   have x2:=drop_tw (p:=wordB) (c :: t)
   generalize hct:c :: t=L at *
   obtain ⟨w,hW⟩:∃w,L.takeWhile wordB=w:=⟨_,rfl⟩
   obtain ⟨v,hV⟩:∃v,L.dropWhile wordB=v:=⟨_,rfl⟩
   simp only[hW,hV]at hw hpos hadd hdl x1 x2
   have n0:decide ((w.length:Int)=0)=false:=by rw[decide_eq_false_iff_not];omega
   have t2:(w.length:Int)≤(L.length:Int):=by omega
   have t0:(0:Int)≤(w.length:Int):=by omega
   have g1:(((o.length+[(35:UInt8)].length:Nat):Int)≤9223372036854775807)=True:=by simp;omega
   have g2:(((o.length+w.length:Nat):Int)≤9223372036854775807)=True:=by simp;omega
   cases hn:numB w with
   | true=>
    rw[hn]at hw
    simp only[if_true]at hw
    (replace hb0:=true_and True);refine Go1.mk ?_;repeat' ((first|(with_reducible refine Go1.go ?_)|((with_reducible first|refine brv_mk ?_ ?_|refine gsplitD ?_ ?_|refine gsplitG ?_ ?_)<;>intro h<;>(try simp only[Bool.not_eq_true',Bool.not_eq_false']at h)<;>replace hb0:=h)|(((with_reducible refine isCall (f:=70) ?_);refine callA_nil (by kernel_rfl) ?_;refine (span_ok _ wordC wordB wordC_is (by omega) ?_)))|(((with_reducible refine isCall (f:=99) ?_);refine callA_nil (by kernel_rfl) ?_;refine (refNumber_ok _ (by omega) ?_)))|((with_reducible refine isDraw [some 21,some 22,some 23,some 24,some 25,some 26,some 3,some 0] (by decide) ?_);refine draw_rule [(0,[]),(1,[]),(2,[]),(3,[]),(4,[2]),(5,[2]),(6,[5]),(7,[])] [[],[],[1],[0,1,2],[],[4],[0,1,2,3],[0,1,2,3,4,5,6]] [21,22,23,24,25,26] [3] (by kernel_rfl) (by kernel_rfl) (by kernel_rfl) (by kernel_rfl) (by exact ⟨rfl,trivial⟩) ?_)|((with_reducible refine isDraw [some 32,some 33,some 34,some 35,some 36,some 3,some 0] (by decide) ?_);refine draw_rule [(0,[]),(1,[]),(2,[]),(3,[]),(4,[]),(5,[4]),(6,[])] [[],[0],[],[],[2,3],[0,1],[0,1,2,3,4,5]] [32,33,34,35,36] [3] (by kernel_rfl) (by kernel_rfl) (by kernel_rfl) (by kernel_rfl) (by exact ⟨rfl,trivial⟩) ?_)|((with_reducible refine isDraw [some 10,some 11,some 12,some 13,some 14,some 15,some 16,some 17,some 3,some 0] (by decide) ?_);refine draw_rule [(0,[]),(1,[]),(2,[]),(3,[]),(4,[]),(5,[3]),(6,[3]),(7,[3]),(8,[7]),(9,[])] [[],[],[],[1,2],[0,1,2,3],[],[],[5,6],[0,1,2,3,4],[0,1,2,3,4,5,6,7,8]] [10,11,12,13,14,15,16,17] [3] (by kernel_rfl) (by kernel_rfl) (by kernel_rfl) (by kernel_rfl) (by exact ⟨rfl,trivial⟩) ?_)|(refine And.intro ?_ ?_;(try simp only[sxO]at *);omega)|fail)<;>(try simp (maxSteps:=1000000) only [hb0,rwSt,t1,hW,a0,n0,t0,t2,x1,x2,hn,g1,bs_mk,bs_app,bs_ext,bs_size,bs_toList,bs_at,bs_cells,List.take_length,imp_ga,guard_pk,guard_pk2,↓hold_pre,awayP,runOps,regK,step1,newK,genR,appR,obl,buildR,Value.cells,closeK,keepH,outV,retK,ret1,retC,RetV,Option.getD,runD,stepD,afterK,undef,simprocAttr,sxB,↓sxD,sxE,sxTab]))
    exact ⟨v.length,rwSt M v (o++[35]),by omega,le_sub ⟨rfl,rfl,trivial⟩ trivial rfl rfl rfl (keepLt0 _),o++[35],v,by simp;omega,by rw[←hrel,hw];simp,rfl,rfl⟩
   | false=>
    rw[hn]at hw
    simp only[Bool.false_eq_true,if_false]at hw
    (replace hb0:=true_and True);refine Go1.mk ?_;repeat' ((first|(with_reducible refine Go1.go ?_)|((with_reducible first|refine brv_mk ?_ ?_|refine gsplitD ?_ ?_|refine gsplitG ?_ ?_)<;>intro h<;>(try simp only[Bool.not_eq_true',Bool.not_eq_false']at h)<;>replace hb0:=h)|(((with_reducible refine isCall (f:=70) ?_);refine callA_nil (by kernel_rfl) ?_;refine (span_ok _ wordC wordB wordC_is (by omega) ?_)))|(((with_reducible refine isCall (f:=99) ?_);refine callA_nil (by kernel_rfl) ?_;refine (refNumber_ok _ (by omega) ?_)))|((with_reducible refine isDraw [some 21,some 22,some 23,some 24,some 25,some 26,some 3,some 0] (by decide) ?_);refine draw_rule [(0,[]),(1,[]),(2,[]),(3,[]),(4,[2]),(5,[2]),(6,[5]),(7,[])] [[],[],[1],[0,1,2],[],[4],[0,1,2,3],[0,1,2,3,4,5,6]] [21,22,23,24,25,26] [3] (by kernel_rfl) (by kernel_rfl) (by kernel_rfl) (by kernel_rfl) (by exact ⟨rfl,trivial⟩) ?_)|((with_reducible refine isDraw [some 32,some 33,some 34,some 35,some 36,some 3,some 0] (by decide) ?_);refine draw_rule [(0,[]),(1,[]),(2,[]),(3,[]),(4,[]),(5,[4]),(6,[])] [[],[0],[],[],[2,3],[0,1],[0,1,2,3,4,5]] [32,33,34,35,36] [3] (by kernel_rfl) (by kernel_rfl) (by kernel_rfl) (by kernel_rfl) (by exact ⟨rfl,trivial⟩) ?_)|((with_reducible refine isDraw [some 10,some 11,some 12,some 13,some 14,some 15,some 16,some 17,some 3,some 0] (by decide) ?_);refine draw_rule [(0,[]),(1,[]),(2,[]),(3,[]),(4,[]),(5,[3]),(6,[3]),(7,[3]),(8,[7]),(9,[])] [[],[],[],[1,2],[0,1,2,3],[],[],[5,6],[0,1,2,3,4],[0,1,2,3,4,5,6,7,8]] [10,11,12,13,14,15,16,17] [3] (by kernel_rfl) (by kernel_rfl) (by kernel_rfl) (by kernel_rfl) (by exact ⟨rfl,trivial⟩) ?_)|(refine And.intro ?_ ?_;(try simp only[sxO]at *);omega)|fail)<;>(try simp (maxSteps:=1000000) only [hb0,rwSt,t1,hW,a0,n0,t0,t2,x1,x2,hn,g2,bs_mk,bs_app,bs_ext,bs_size,bs_toList,bs_at,bs_cells,List.take_length,imp_ga,guard_pk,guard_pk2,↓hold_pre,awayP,runOps,regK,step1,newK,genR,appR,obl,buildR,Value.cells,closeK,keepH,outV,retK,ret1,retC,RetV,Option.getD,runD,stepD,afterK,undef,simprocAttr,sxB,↓sxD,sxE,sxTab]))
    exact ⟨v.length,rwSt M v (o++w),by omega,le_sub ⟨rfl,rfl,trivial⟩ trivial rfl rfl rfl (keepLt0 _),o++w,v,by simp;omega,by rw[←hrel,hw];simp,rfl,rfl⟩
theorem base_cut2(l:Bst):∃g:Nat,Lib.lastIndexByte (bs l) 47=(g:Int)-1∧g≤l.length∧l.drop g=baseB l:=by
 rcases base_split l with ⟨q,hq,q1,q2⟩|⟨q1,q2⟩
 ·exact ⟨q+1,by rw[q1];omega,by omega,q2⟩
 ·exact ⟨0,by rw[q1];rfl,by omega,by rw[List.drop_zero];exact q2⟩
theorem refRun_ok(l:Bst)(hl:l.length<1000000)(hK:K (.ext (.string (bs (partB l)))) [] M):CallS Tryz.prog 71 [.ext (.string (bs l))] [] M [] K:=by
 refine inlS (cs:=[]) Tryz.mixed Tryz.func71 rfl (by kernel_rfl) 0 rfl rfl ?_
 simp only[Tryz.f71]
 obtain ⟨g,hg1,hg2,hg3⟩:=base_cut2 l
 have hbl:=base_len l
 have w0:IntKind.i64.wrap ((l.length:Int)-1)=(l.length:Int)-1:=wrap_id (by omega) (by omega)
 have w1:IntKind.i64.wrap ((g:Int)-1+1)=(g:Int):=by rw[wrap_id (by omega) (by omega)];omega
 have b1:(0:Int)≤(g:Int):=by omega
 have b2:(g:Int)≤(l.length:Int):=by omega
 by_cases he:g=l.length
 ·have hb:baseB l=[]:=by rw[←hg3,he,List.drop_length]
  have e:partB l=[47]:=by simp[partB,hb]
  have d1:decide ((g:Int)-1=(l.length:Int)-1)=true:=by rw[decide_eq_true_eq];omega
  rw[e]at hK
  have m2:ByteArray.mk #[47]=bs [47]:=rfl
  (replace hb0:=true_and True);refine Go1.mk ?_;repeat' ((first|(with_reducible refine Go1.go ?_)|((with_reducible first|refine brv_mk ?_ ?_|refine gsplitD ?_ ?_|refine gsplitG ?_ ?_)<;>intro h<;>(try simp only[Bool.not_eq_true',Bool.not_eq_false']at h)<;>replace hb0:=h)|(((with_reducible refine isCall (f:=72) ?_);refine callA_nil (by kernel_rfl) ?_;refine (lastIdx_ok l (by omega) ?_)))|(refine And.intro ?_ ?_;(try simp only[sxO]at *);omega)|fail)<;>(try simp (maxSteps:=1000000) only [hb0,hg1,w0,d1,m2,bs_mk,bs_app,bs_ext,bs_size,bs_toList,bs_at,bs_cells,List.take_length,imp_ga,guard_pk,guard_pk2,↓hold_pre,awayP,runOps,regK,step1,newK,genR,appR,obl,buildR,Value.cells,closeK,keepH,outV,retK,ret1,retC,RetV,Option.getD,runD,stepD,afterK,undef,simprocAttr,sxB,↓sxD,sxE,sxTab]))
  exact hK
 ·have hb:baseB l≠[]:=fun h=>by
   have:=congrArg List.length hg3
   rw[h,List.length_drop]at this
   simp at this;omega
  have e:partB l=wordsB (baseB l):=by simp[partB,hb]
  have d1:decide ((g:Int)-1=(l.length:Int)-1)=false:=by rw[decide_eq_false_iff_not];omega
  rw[e]at hK
  have m2:ByteArray.mk #[47]=bs [47]:=rfl
  (replace hb0:=true_and True);refine Go1.mk ?_;repeat' ((first|(with_reducible refine Go1.go ?_)|((with_reducible first|refine brv_mk ?_ ?_|refine gsplitD ?_ ?_|refine gsplitG ?_ ?_)<;>intro h<;>(try simp only[Bool.not_eq_true',Bool.not_eq_false']at h)<;>replace hb0:=h)|(((with_reducible refine isCall (f:=72) ?_);refine callA_nil (by kernel_rfl) ?_;refine (lastIdx_ok l (by omega) ?_)))|(((with_reducible refine isCall (f:=82) ?_);refine callA_nil (by kernel_rfl) ?_;refine (refWords_ok _ (by omega) ?_)))|(refine And.intro ?_ ?_;(try simp only[sxO]at *);omega)|fail)<;>(try simp (maxSteps:=1000000) only [hb0,hg1,w0,w1,b1,b2,hg3,d1,m2,bs_mk,bs_app,bs_ext,bs_size,bs_toList,bs_at,bs_cells,List.take_length,imp_ga,guard_pk,guard_pk2,↓hold_pre,awayP,runOps,regK,step1,newK,genR,appR,obl,buildR,Value.cells,closeK,keepH,outV,retK,ret1,retC,RetV,Option.getD,runD,stepD,afterK,undef,simprocAttr,sxB,↓sxD,sxE,sxTab]))
  exact hK
end
theorem quo_two{l:Bst}(h:0<quoB l):2≤quoB l:=by
 revert h
 cases l with
 | nil=>simp[quoB]
 | cons c t=>
  simp only[quoB]
  split
  ·split
   ·split<;>omega
   ·omega
  ·omega
theorem quo_le(l:Bst):quoB l≤l.length:=by
 cases l with
 | nil=>simp[quoB]
 | cons c t=>
  simp only[quoB]
  split
  ·have hh:=congrArg List.length (List.takeWhile_append_dropWhile (p:=qst) (l:=t))
   rw[List.length_append]at hh
   split
   ·rename_i e
    rw[e]at hh
    simp only[List.length_cons]at hh ⊢
    split<;>omega
   ·omega
  ·omega
def nnl(b:UInt8):Bool:=b != 10
theorem quo_ix:∀t:Bst,(0<quoB (34 :: t)∧Lib.indexByte (t.takeWhile nnl) 34=(quoB (34 :: t):Int)-2)∨(quoB (34 :: t)=0∧Lib.indexByte (t.takeWhile nnl) 34=-1)
 | []=>.inr ⟨rfl,rfl⟩
 | d :: t=>by
  have ih:=quo_ix t
  by_cases h10:d=10
  ·subst h10
   right
   have h1:((10:UInt8) :: t).takeWhile nnl=[]:=List.takeWhile_cons_of_neg (by decide)
   have h2:((10:UInt8) :: t).dropWhile qst=10 :: t:=List.dropWhile_cons_of_neg (by decide)
   rw[h1]
   refine ⟨?_,rfl⟩
   simp[quoB,h2]
  ·have h1:(d :: t).takeWhile nnl=d :: t.takeWhile nnl:=List.takeWhile_cons_of_pos (by simpa [nnl] using h10)
   rw[h1]
   by_cases h34:d=34
   ·subst h34
    left
    have h2:((34:UInt8) :: t).dropWhile qst=34 :: t:=List.dropWhile_cons_of_neg (by decide)
    have h3:((34:UInt8) :: t).takeWhile qst=[]:=List.takeWhile_cons_of_neg (by decide)
    have:quoB (34 :: 34 :: t)=2:=by simp[quoB,h2,h3]
    rw[this];exact ⟨by omega,by simp[Lib.indexByte]⟩
   ·have hq:qst d=true:=by simp[qst,h34,h10]
    have e1:Lib.indexByte (d :: t.takeWhile nnl) 34=if Lib.indexByte (t.takeWhile nnl) 34==-1 then -1 else Lib.indexByte (t.takeWhile nnl) 34+1:=by rw[Lib.indexByte];simp[h34]
    have e2:(0<quoB (34 :: t)→quoB (34 :: d :: t)=quoB (34 :: t)+1)∧(quoB (34 :: t)=0→quoB (34 :: d :: t)=0):=by
     simp only[quoB,if_true,List.dropWhile_cons_of_pos hq,List.takeWhile_cons_of_pos hq,List.length_cons]
     split
     ·split
      ·exact ⟨fun _=>by omega,fun h=>by omega⟩
      ·exact ⟨fun h=>by omega,fun _=>rfl⟩
     ·exact ⟨fun h=>by omega,fun _=>rfl⟩
    rw[e1]
    rcases ih with ⟨a,b⟩|⟨a,b⟩
    ·left
     have h2:=quo_two a
     have hne:((quoB (34 :: t):Int)-2==-1)=false:=by simp;omega
     rw[e2.1 a,b,hne]
     refine ⟨by omega,?_⟩
     simp only[Bool.false_eq_true,if_false];omega
    ·right
     rw[e2.2 a,b];exact ⟨rfl,rfl⟩
theorem ix_tw(c:UInt8):∀l:Bst,(Lib.indexByte l c=((l.takeWhile (fun b=>b != c)).length:Int))∨(Lib.indexByte l c=-1∧l.takeWhile (fun b=>b != c)=l)
 | []=>.inr ⟨rfl,rfl⟩
 | d :: t=>by
  rw[Lib.indexByte]
  by_cases h:d=c
  ·subst h;left;simp
  ·have h1:(d :: t).takeWhile (fun b=>b != c)=d :: t.takeWhile (fun b=>b != c):=List.takeWhile_cons_of_pos (by simpa using h)
   rw[h1]
   have h2:(d==c)=false:=by simpa using h
   rw[h2]
   rcases ix_tw c t with e|⟨e,e2⟩
   ·left
    rw[e]
    have:(((t.takeWhile fun b=>b != c).length:Int)==-1)=false:=by simp
    rw[this];simp
   ·right
    rw[e,e2];exact ⟨rfl,rfl⟩
section
variable {M:Mem}{K:AV→Hp→Mem→Prop}
theorem strIx_ok(l:Bst)(c:UInt8)(hK:K (.ext (.int .i64 (Lib.indexByte l c))) [] M):CallS Tryz.prog 69 [.ext (.string (bs l)),.ext (.string (bs [c]))] [] M [] K:=
 callS_of (us:=[.string (bs l),.string (bs [c])]) (fun w=>(Tryz.strings_Index_one (bs l) c w).mono fun e w' h=>⟨h.1,h.2▸Below.refl _ _⟩) hK
def rnSt(M:Mem)(r o:Bst):St:={env:=[(3,.ext (.string (bs o))),(0,.ext (.string (bs r)))],hp:=[],M:=M,kb:=0,fx:=[]}
theorem refNormal_ok(l:Bst)(hl:l.length<1000000000000000)(hK:K (.ext (.string (bs (normalB l)))) [] M):CallS Tryz.prog 51 [.ext (.string (bs l))] [] M [] K:=by
 refine inlS (cs:=[]) Tryz.mixed Tryz.func51 rfl (by kernel_rfl) 0 rfl rfl ?_
 simp only[Tryz.f51]
 have tp:([97,98,99,100,101,102,103,104,105,106,107,108,109,110,111,112,113,114,115,116,117,118,119,120,121,122,65,66,67,68,69,70,71].append [72,73,74,75,76,77,78,79,80,81,82,83,84,85,86,87,88,89,90,48,49,50,51,52,53,54,55,56,57,95,46,45,47]:List UInt8)=pathC:=rfl
 have tb:([32,9,13]:List UInt8)=blaC:=rfl
 have m1:(if (512:Int)<(l.length:Int) then (512:Int) else (l.length:Int))=((min l.length 512:Nat):Int):=by split<;>omega
 have m2:(0:Int)≤((min l.length 512:Nat):Int):=by omega
 have m3:((min l.length 512:Nat):Int)≤(l.length:Int):=by omega
 have m4:l.take (min l.length 512)=l.take 512:=by
  by_cases h:l.length≤512
  ·rw[Nat.min_eq_left h,List.take_of_length_le (Nat.le_refl _),List.take_of_length_le h]
  ·rw[Nat.min_eq_right (by omega)]
 unfold normalB at hK
 obtain ⟨r0,hr0⟩:∃r0,l.take 512=r0:=⟨_,rfl⟩
 have hlen:r0.length≤512:=by rw[←hr0,List.length_take];omega
 rw[hr0]at hK m4
 clear hr0
 (replace hb0:=true_and True);refine Go1.mk ?_;repeat' ((first|(with_reducible refine Go1.go ?_)|((with_reducible first|refine brv_mk ?_ ?_|refine gsplitD ?_ ?_|refine gsplitG ?_ ?_)<;>intro h<;>(try simp only[Bool.not_eq_true',Bool.not_eq_false']at h)<;>replace hb0:=h)|((with_reducible refine isDraw [some 68,some 69,some 70,some 71,some 72,some 73,some 3,some 0] (by decide) ?_);refine draw_rule [(0,[]),(1,[]),(2,[]),(3,[]),(4,[]),(5,[]),(6,[5]),(7,[])] [[],[],[0,1],[],[],[3,4],[0,1,2],[0,1,2,3,4,5,6]] [68,69,70,71,72,73] [3] (by kernel_rfl) (by kernel_rfl) (by kernel_rfl) (by kernel_rfl) (by exact ⟨rfl,trivial⟩) ?_)|(refine And.intro ?_ ?_;(try simp only[sxO]at *);omega)|fail)<;>(try simp (maxSteps:=1000000) only [hb0,m1,m2,m3,m4,bs_mk,bs_app,bs_ext,bs_size,bs_toList,bs_at,bs_cells,List.take_length,imp_ga,guard_pk,guard_pk2,↓hold_pre,awayP,runOps,regK,step1,newK,genR,appR,obl,buildR,Value.cells,closeK,keepH,outV,retK,ret1,retC,RetV,Option.getD,runD,stepD,afterK,undef,simprocAttr,sxB,↓sxD,sxE,sxTab]))
 refine ⟨fun m z=>∃o r,o.length+r.length≤512∧o++normB r=normB r0∧m=r.length∧z=rnSt M r o,⟨r0.length,rnSt M r0 [],le_sub ⟨rfl,rfl,trivial⟩ trivial rfl rfl rfl (keepLt0 _),⟨[],r0,by simpa using hlen,rfl,rfl,rfl⟩⟩,?_⟩
 clear m1 m2 m3 m4
 rintro m z ⟨o,r,hlen',hrel,rfl,rfl⟩
 have done:∀(v y:Bst) (s:St),v.length<r.length→y.length+v.length≤r.length→o++(y++normB v)=normB r0→lk s.env 3=.ext (.string (bs (o++y)))→lk s.env 0=.ext (.string (bs v))→s.M=M→s.kb=0→s.fx=[]→∃m' z,m'<r.length∧Le s z∧∃o r,o.length+r.length≤512∧o++normB r=normB r0∧m'=r.length∧z=rnSt M r o:=fun v y s h1 h2 h3 e3 e0 eM ek ef=>
  ⟨v.length,rnSt M v (o++y),h1,le_sub ⟨e3,e0,trivial⟩ trivial eM.symm ek.symm ef.symm (by rw[ek];exact keepLt0 _),o++y,v,by rw[List.length_append];omega,by rw[List.append_assoc];exact h3,rfl,rfl⟩
 cases r with
 | nil=>
  have e0:o=normB r0:=by rw[←hrel,normB];simp
  rw[←e0]at hK
  have d0:decide ((0:Int)<((0:Nat):Int))=false:=by decide
  (replace hb0:=true_and True);refine Go1.mk ?_;repeat' ((first|(with_reducible refine Go1.go ?_)|((with_reducible first|refine brv_mk ?_ ?_|refine gsplitD ?_ ?_|refine gsplitG ?_ ?_)<;>intro h<;>(try simp only[Bool.not_eq_true',Bool.not_eq_false']at h)<;>replace hb0:=h)|((with_reducible refine isDraw [some 68,some 69,some 70,some 71,some 72,some 73,some 3,some 0] (by decide) ?_);refine draw_rule [(0,[]),(1,[]),(2,[]),(3,[]),(4,[]),(5,[]),(6,[5]),(7,[])] [[],[],[0,1],[],[],[3,4],[0,1,2],[0,1,2,3,4,5,6]] [68,69,70,71,72,73] [3] (by kernel_rfl) (by kernel_rfl) (by kernel_rfl) (by kernel_rfl) (by exact ⟨rfl,trivial⟩) ?_)|(refine And.intro ?_ ?_;(try simp only[sxO]at *);omega)|fail)<;>(try simp (maxSteps:=1000000) only [hb0,rnSt,d0,bs_mk,bs_app,bs_ext,bs_size,bs_toList,bs_at,bs_cells,List.take_length,imp_ga,guard_pk,guard_pk2,↓hold_pre,awayP,runOps,regK,step1,newK,genR,appR,obl,buildR,Value.cells,closeK,keepH,outV,retK,ret1,retC,RetV,Option.getD,runD,stepD,afterK,undef,simprocAttr,sxB,↓sxD,sxE,sxTab]))
  exact hK
 | cons c t=>
  have hL:(c :: t).length=t.length+1:=rfl
  have d0:decide ((0:Int)<(((c :: t).length:Nat):Int))=true:=by simp
  have a0:(0:Int)<(((c :: t).length:Nat):Int):=by simp only[List.length_cons];omega
  have a1:(1:Int)≤(((c :: t).length:Nat):Int):=by simp only[List.length_cons];omega
  have g0:(c :: t).getD 0 0=c:=rfl
  have hline:∃(q:Int) (x:Bst),Lib.indexByte (c :: t) 10=q∧(c :: t).takeWhile nnl=x∧((decide (0≤q)=true∧0≤q∧q≤(((c :: t).length:Nat):Int)∧(c :: t).take q.toNat=x)∨(decide (0≤q)=false∧c :: t=x)):=by
   rcases ix_tw 10 (c :: t) with e|⟨e,e2⟩
   ·have hle:=(List.takeWhile_sublist nnl (l:=c :: t)).length_le
    have e:Lib.indexByte (c :: t) 10=(((c :: t).takeWhile nnl).length:Int):=e
    refine ⟨_,_,e,rfl,.inl ⟨by simp,by omega,by omega,?_⟩⟩
    rw[Int.toNat_natCast,take_tw]
   ·exact ⟨_,_,e,rfl,.inr ⟨rfl,e2.symm⟩⟩
  obtain ⟨q,x,hq,hx,hline⟩:=hline
  have hx1:c=34→x.drop 1=t.takeWhile nnl∧(1:Int)≤((x.length:Nat):Int):=fun h=>by
   rw[←hx,List.takeWhile_cons_of_pos (by rw[h];decide)]
   exact ⟨rfl,by simp only[List.length_cons];omega⟩
  have qi:=quo_ix t
  generalize t.takeWhile nnl=y at hx1 qi
  by_cases hquo:0<quoB (c :: t)
  ·have h34:c=34:=Classical.byContradiction fun h=>by
    have:=quo_zero (c:=c) (r:=t) fun e=>h e.1
    omega
   obtain ⟨hx1,hx2⟩:=hx1 h34
   have hn:normB (c :: t)=34 :: 34 :: normB ((c :: t).drop (quoB (c :: t))):=by rw[normB,if_pos hquo]
   have q2:=quo_two hquo
   have qle:=quo_le (c :: t)
   rw[←h34]at qi
   obtain ⟨Q,hQ⟩:∃Q,quoB (c :: t)=Q:=⟨_,rfl⟩
   rw[hQ]at hn q2 qle qi
   obtain ⟨v,hv⟩:∃v,(c :: t).drop Q=v:=⟨_,rfl⟩
   have hvl:v.length=(c :: t).length-Q:=by rw[←hv,List.length_drop]
   rw[hv]at hn
   have qi:Lib.indexByte y 34=(Q:Int)-2:=by
    rcases qi with ⟨_,b⟩|⟨a,_⟩
    ·rw[h34]at b;exact b
    ·omega
   have d34:decide ((c.toNat:Int)=34)=true:=by rw[h34];decide
   have w2:IntKind.i64.wrap ((Q:Int)-2+2)=(Q:Int):=by rw[wrap_id (by omega) (by omega)];omega
   have b1:decide (0≤(Q:Int)-2)=true:=by rw[decide_eq_true_eq];omega
   have b2:(0:Int)≤(Q:Int):=by omega
   have b3:(Q:Int)≤(((c :: t).length:Nat):Int):=by omega
   have gs:(((o.length+[(34:UInt8),34].length:Nat):Int)≤9223372036854775807)=True:=by simp;omega
   generalize hct:c :: t=L at *
   rcases hline with ⟨l1,l2,l3,l4⟩|⟨l1,l4⟩
   ·(replace hb0:=true_and True);refine Go1.mk ?_;repeat' ((first|(with_reducible refine Go1.go ?_)|((with_reducible first|refine brv_mk ?_ ?_|refine gsplitD ?_ ?_|refine gsplitG ?_ ?_)<;>intro h<;>(try simp only[Bool.not_eq_true',Bool.not_eq_false']at h)<;>replace hb0:=h)|(((with_reducible refine isCall (f:=69) ?_);refine callA_nil (by kernel_rfl) ?_;refine (strIx_ok _ _ ?_)))|((with_reducible refine isDraw [some 68,some 69,some 70,some 71,some 72,some 73,some 3,some 0] (by decide) ?_);refine draw_rule [(0,[]),(1,[]),(2,[]),(3,[]),(4,[]),(5,[]),(6,[5]),(7,[])] [[],[],[0,1],[],[],[3,4],[0,1,2],[0,1,2,3,4,5,6]] [68,69,70,71,72,73] [3] (by kernel_rfl) (by kernel_rfl) (by kernel_rfl) (by kernel_rfl) (by exact ⟨rfl,trivial⟩) ?_)|(refine And.intro ?_ ?_;(try simp only[sxO]at *);omega)|fail)<;>(try simp (maxSteps:=1000000) only [hb0,rnSt,d0,a0,a1,g0,hq,l1,l2,l3,l4,hx1,hx2,qi,d34,w2,b1,b2,b3,gs,hv,Int.toNat_one,bs_mk,bs_app,bs_ext,bs_size,bs_toList,bs_at,bs_cells,List.take_length,imp_ga,guard_pk,guard_pk2,↓hold_pre,awayP,runOps,regK,step1,newK,genR,appR,obl,buildR,Value.cells,closeK,keepH,outV,retK,ret1,retC,RetV,Option.getD,runD,stepD,afterK,undef,simprocAttr,sxB,↓sxD,sxE,sxTab]))
    exact done v [34,34] _ (by omega) (by simp only[List.length_cons,List.length_nil];omega) (by rw[←hrel,hn];rfl) rfl rfl rfl rfl rfl
   ·rw[←l4]at hx1 hx2
    (replace hb0:=true_and True);refine Go1.mk ?_;repeat' ((first|(with_reducible refine Go1.go ?_)|((with_reducible first|refine brv_mk ?_ ?_|refine gsplitD ?_ ?_|refine gsplitG ?_ ?_)<;>intro h<;>(try simp only[Bool.not_eq_true',Bool.not_eq_false']at h)<;>replace hb0:=h)|(((with_reducible refine isCall (f:=69) ?_);refine callA_nil (by kernel_rfl) ?_;refine (strIx_ok _ _ ?_)))|((with_reducible refine isDraw [some 68,some 69,some 70,some 71,some 72,some 73,some 3,some 0] (by decide) ?_);refine draw_rule [(0,[]),(1,[]),(2,[]),(3,[]),(4,[]),(5,[]),(6,[5]),(7,[])] [[],[],[0,1],[],[],[3,4],[0,1,2],[0,1,2,3,4,5,6]] [68,69,70,71,72,73] [3] (by kernel_rfl) (by kernel_rfl) (by kernel_rfl) (by kernel_rfl) (by exact ⟨rfl,trivial⟩) ?_)|(refine And.intro ?_ ?_;(try simp only[sxO]at *);omega)|fail)<;>(try simp (maxSteps:=1000000) only [hb0,rnSt,d0,a0,a1,g0,hq,l1,hx1,hx2,qi,d34,w2,b1,b2,b3,gs,hv,Int.toNat_one,bs_mk,bs_app,bs_ext,bs_size,bs_toList,bs_at,bs_cells,List.take_length,imp_ga,guard_pk,guard_pk2,↓hold_pre,awayP,runOps,regK,step1,newK,genR,appR,obl,buildR,Value.cells,closeK,keepH,outV,retK,ret1,retC,RetV,Option.getD,runD,stepD,afterK,undef,simprocAttr,sxB,↓sxD,sxE,sxTab]))
    exact done v [34,34] _ (by omega) (by simp only[List.length_cons,List.length_nil];omega) (by rw[←hrel,hn];rfl) rfl rfl rfl rfl rfl
  ·have dm:decide ((0:Int)≤-1)=false:=by decide
   cases hpc:pathB c with
   | true=>
    have h34:c≠34:=fun h=>by rw[h]at hpc;revert hpc;decide
    have d34:decide ((c.toNat:Int)=34)=false:=by
     rw[decide_eq_false_iff_not];intro h;apply h34
     exact UInt8.toNat_inj.1 (by simpa using (by omega:c.toNat=34))
    have hn:normB (c :: t)=partB ((c :: t).takeWhile pathB)++normB ((c :: t).dropWhile pathB):=by rw[normB,if_neg hquo,dif_pos hpc]
    have hdl:=dropW_lt (r:=t) hpc
    have hpos:0<((c :: t).takeWhile pathB).length:=by rw[List.takeWhile_cons_of_pos hpc];simp
    have hadd:=congrArg List.length (List.takeWhile_append_dropWhile (p:=pathB) (l:=c :: t))
    rw[List.length_append]at hadd
    have x1:=take_tw (p:=pathB) (c :: t)
    have x2:=drop_tw (p:=pathB) (c :: t)
    obtain ⟨w,hW⟩:∃w,(c :: t).takeWhile pathB=w:=⟨_,rfl⟩
    obtain ⟨v,hV⟩:∃v,(c :: t).dropWhile pathB=v:=⟨_,rfl⟩
    simp only[hW,hV]at hn hdl hpos hadd x1 x2
    have hpl:(partB w).length≤w.length:=part_len (by intro e;rw[e]at hpos;simp at hpos)
    have b1:decide ((0:Int)<(w.length:Int))=true:=by simp;omega
    have b2:(0:Int)≤(w.length:Int):=by omega
    have b3:(w.length:Int)≤(((c :: t).length:Nat):Int):=by omega
    have gs:(((o.length+(partB w).length:Nat):Int)≤9223372036854775807)=True:=by simp;omega
    generalize hct:c :: t=L at *
    rcases hline with ⟨l1,l2,l3,l4⟩|⟨l1,l4⟩
    ·(replace hb0:=true_and True);refine Go1.mk ?_;repeat' ((first|(with_reducible refine Go1.go ?_)|((with_reducible first|refine brv_mk ?_ ?_|refine gsplitD ?_ ?_|refine gsplitG ?_ ?_)<;>intro h<;>(try simp only[Bool.not_eq_true',Bool.not_eq_false']at h)<;>replace hb0:=h)|(((with_reducible refine isCall (f:=69) ?_);refine callA_nil (by kernel_rfl) ?_;refine (strIx_ok _ _ ?_)))|(((with_reducible refine isCall (f:=70) ?_);refine callA_nil (by kernel_rfl) ?_;refine (span_ok L pathC pathB pathC_is (by omega) ?_)))|(((with_reducible refine isCall (f:=71) ?_);refine callA_nil (by kernel_rfl) ?_;refine (refRun_ok w (by omega) ?_)))|((with_reducible refine isDraw [some 68,some 69,some 70,some 71,some 72,some 73,some 3,some 0] (by decide) ?_);refine draw_rule [(0,[]),(1,[]),(2,[]),(3,[]),(4,[]),(5,[]),(6,[5]),(7,[])] [[],[],[0,1],[],[],[3,4],[0,1,2],[0,1,2,3,4,5,6]] [68,69,70,71,72,73] [3] (by kernel_rfl) (by kernel_rfl) (by kernel_rfl) (by kernel_rfl) (by exact ⟨rfl,trivial⟩) ?_)|(refine And.intro ?_ ?_;(try simp only[sxO]at *);omega)|fail)<;>(try simp (maxSteps:=1000000) only [hb0,rnSt,tp,tb,d0,a0,a1,g0,hq,l1,l2,l3,l4,d34,dm,hW,x1,x2,b1,b2,b3,gs,Int.toNat_one,bs_mk,bs_app,bs_ext,bs_size,bs_toList,bs_at,bs_cells,List.take_length,imp_ga,guard_pk,guard_pk2,↓hold_pre,awayP,runOps,regK,step1,newK,genR,appR,obl,buildR,Value.cells,closeK,keepH,outV,retK,ret1,retC,RetV,Option.getD,runD,stepD,afterK,undef,simprocAttr,sxB,↓sxD,sxE,sxTab]))
     exact done v (partB w) _ (by omega) (by omega) (by rw[←hrel,hn]) rfl rfl rfl rfl rfl
    ·(replace hb0:=true_and True);refine Go1.mk ?_;repeat' ((first|(with_reducible refine Go1.go ?_)|((with_reducible first|refine brv_mk ?_ ?_|refine gsplitD ?_ ?_|refine gsplitG ?_ ?_)<;>intro h<;>(try simp only[Bool.not_eq_true',Bool.not_eq_false']at h)<;>replace hb0:=h)|(((with_reducible refine isCall (f:=69) ?_);refine callA_nil (by kernel_rfl) ?_;refine (strIx_ok _ _ ?_)))|(((with_reducible refine isCall (f:=70) ?_);refine callA_nil (by kernel_rfl) ?_;refine (span_ok L pathC pathB pathC_is (by omega) ?_)))|(((with_reducible refine isCall (f:=71) ?_);refine callA_nil (by kernel_rfl) ?_;refine (refRun_ok w (by omega) ?_)))|((with_reducible refine isDraw [some 68,some 69,some 70,some 71,some 72,some 73,some 3,some 0] (by decide) ?_);refine draw_rule [(0,[]),(1,[]),(2,[]),(3,[]),(4,[]),(5,[]),(6,[5]),(7,[])] [[],[],[0,1],[],[],[3,4],[0,1,2],[0,1,2,3,4,5,6]] [68,69,70,71,72,73] [3] (by kernel_rfl) (by kernel_rfl) (by kernel_rfl) (by kernel_rfl) (by exact ⟨rfl,trivial⟩) ?_)|(refine And.intro ?_ ?_;(try simp only[sxO]at *);omega)|fail)<;>(try simp (maxSteps:=1000000) only [hb0,rnSt,tp,tb,d0,a0,a1,g0,hq,l1,d34,dm,hW,x1,x2,b1,b2,b3,gs,Int.toNat_one,bs_mk,bs_app,bs_ext,bs_size,bs_toList,bs_at,bs_cells,List.take_length,imp_ga,guard_pk,guard_pk2,↓hold_pre,awayP,runOps,regK,step1,newK,genR,appR,obl,buildR,Value.cells,closeK,keepH,outV,retK,ret1,retC,RetV,Option.getD,runD,stepD,afterK,undef,simprocAttr,sxB,↓sxD,sxE,sxTab]))
     exact done v (partB w) _ (by omega) (by omega) (by rw[←hrel,hn]) rfl rfl rfl rfl rfl
   | false=>
    have p0:((c :: t).takeWhile pathB).length=0:=by rw[List.takeWhile_cons_of_neg (by simp[hpc])];rfl
    have p1:decide ((0:Int)<((0:Nat):Int))=false:=by decide
    cases hbc:blankB c with
    | true=>
     have h34:c≠34:=fun h=>by rw[h]at hbc;revert hbc;decide
     have d34:decide ((c.toNat:Int)=34)=false:=by
      rw[decide_eq_false_iff_not];intro h;apply h34
      exact UInt8.toNat_inj.1 (by simpa using (by omega:c.toNat=34))
     have hn:normB (c :: t)=32 :: normB ((c :: t).dropWhile blankB):=by rw[normB,if_neg hquo,dif_neg (by simp[hpc]),dif_pos hbc]
     have hdl:=dropW_lt (r:=t) hbc
     have hpos:0<((c :: t).takeWhile blankB).length:=by rw[List.takeWhile_cons_of_pos hbc];simp
     have hadd:=congrArg List.length (List.takeWhile_append_dropWhile (p:=blankB) (l:=c :: t))
     rw[List.length_append]at hadd
     have x2:=drop_tw (p:=blankB) (c :: t)
     obtain ⟨w,hW⟩:∃w,(c :: t).takeWhile blankB=w:=⟨_,rfl⟩
     obtain ⟨v,hV⟩:∃v,(c :: t).dropWhile blankB=v:=⟨_,rfl⟩
     simp only[hW,hV]at hn hdl hpos hadd x2
     have b1:decide ((0:Int)<(w.length:Int))=true:=by simp;omega
     have b2:(0:Int)≤(w.length:Int):=by omega
     have b3:(w.length:Int)≤(((c :: t).length:Nat):Int):=by omega
     have gs:(((o.length+[(32:UInt8)].length:Nat):Int)≤9223372036854775807)=True:=by simp;omega
     generalize hct:c :: t=L at *
     rcases hline with ⟨l1,l2,l3,l4⟩|⟨l1,l4⟩
     ·(replace hb0:=true_and True);refine Go1.mk ?_;repeat' ((first|(with_reducible refine Go1.go ?_)|((with_reducible first|refine brv_mk ?_ ?_|refine gsplitD ?_ ?_|refine gsplitG ?_ ?_)<;>intro h<;>(try simp only[Bool.not_eq_true',Bool.not_eq_false']at h)<;>replace hb0:=h)|(((with_reducible refine isCall (f:=69) ?_);refine callA_nil (by kernel_rfl) ?_;refine (strIx_ok _ _ ?_)))|(((with_reducible refine isCall (f:=70) ?_);refine callA_nil (by kernel_rfl) ?_;refine (span_ok L pathC pathB pathC_is (by omega) ?_)))|(((with_reducible refine isCall (f:=70) ?_);refine callA_nil (by kernel_rfl) ?_;refine (span_ok L blaC blankB blaC_is (by omega) ?_)))|((with_reducible refine isDraw [some 68,some 69,some 70,some 71,some 72,some 73,some 3,some 0] (by decide) ?_);refine draw_rule [(0,[]),(1,[]),(2,[]),(3,[]),(4,[]),(5,[]),(6,[5]),(7,[])] [[],[],[0,1],[],[],[3,4],[0,1,2],[0,1,2,3,4,5,6]] [68,69,70,71,72,73] [3] (by kernel_rfl) (by kernel_rfl) (by kernel_rfl) (by kernel_rfl) (by exact ⟨rfl,trivial⟩) ?_)|(refine And.intro ?_ ?_;(try simp only[sxO]at *);omega)|fail)<;>(try simp (maxSteps:=1000000) only [hb0,rnSt,tp,tb,d0,a0,a1,g0,hq,l1,l2,l3,l4,d34,dm,p0,p1,hW,x2,b1,b2,b3,gs,Int.toNat_one,bs_mk,bs_app,bs_ext,bs_size,bs_toList,bs_at,bs_cells,List.take_length,imp_ga,guard_pk,guard_pk2,↓hold_pre,awayP,runOps,regK,step1,newK,genR,appR,obl,buildR,Value.cells,closeK,keepH,outV,retK,ret1,retC,RetV,Option.getD,runD,stepD,afterK,undef,simprocAttr,sxB,↓sxD,sxE,sxTab]))
      exact done v [32] _ (by omega) (by simp only[List.length_cons,List.length_nil];omega) (by rw[←hrel,hn];rfl) rfl rfl rfl rfl rfl
     ·(replace hb0:=true_and True);refine Go1.mk ?_;repeat' ((first|(with_reducible refine Go1.go ?_)|((with_reducible first|refine brv_mk ?_ ?_|refine gsplitD ?_ ?_|refine gsplitG ?_ ?_)<;>intro h<;>(try simp only[Bool.not_eq_true',Bool.not_eq_false']at h)<;>replace hb0:=h)|(((with_reducible refine isCall (f:=69) ?_);refine callA_nil (by kernel_rfl) ?_;refine (strIx_ok _ _ ?_)))|(((with_reducible refine isCall (f:=70) ?_);refine callA_nil (by kernel_rfl) ?_;refine (span_ok L pathC pathB pathC_is (by omega) ?_)))|(((with_reducible refine isCall (f:=70) ?_);refine callA_nil (by kernel_rfl) ?_;refine (span_ok L blaC blankB blaC_is (by omega) ?_)))|((with_reducible refine isDraw [some 68,some 69,some 70,some 71,some 72,some 73,some 3,some 0] (by decide) ?_);refine draw_rule [(0,[]),(1,[]),(2,[]),(3,[]),(4,[]),(5,[]),(6,[5]),(7,[])] [[],[],[0,1],[],[],[3,4],[0,1,2],[0,1,2,3,4,5,6]] [68,69,70,71,72,73] [3] (by kernel_rfl) (by kernel_rfl) (by kernel_rfl) (by kernel_rfl) (by exact ⟨rfl,trivial⟩) ?_)|(refine And.intro ?_ ?_;(try simp only[sxO]at *);omega)|fail)<;>(try simp (maxSteps:=1000000) only [hb0,rnSt,tp,tb,d0,a0,a1,g0,hq,l1,d34,dm,p0,p1,hW,x2,b1,b2,b3,gs,Int.toNat_one,bs_mk,bs_app,bs_ext,bs_size,bs_toList,bs_at,bs_cells,List.take_length,imp_ga,guard_pk,guard_pk2,↓hold_pre,awayP,runOps,regK,step1,newK,genR,appR,obl,buildR,Value.cells,closeK,keepH,outV,retK,ret1,retC,RetV,Option.getD,runD,stepD,afterK,undef,simprocAttr,sxB,↓sxD,sxE,sxTab]))
      exact done v [32] _ (by omega) (by simp only[List.length_cons,List.length_nil];omega) (by rw[←hrel,hn];rfl) rfl rfl rfl rfl rfl
    | false=>
     have p2:((c :: t).takeWhile blankB).length=0:=by rw[List.takeWhile_cons_of_neg (by simp[hbc])];rfl
     have hn:normB (c :: t)=othB c :: normB t:=by rw[normB,if_neg hquo,dif_neg (by simp[hpc]),dif_neg (by simp[hbc])]
     have x1:(c :: t).take 1=[c]:=rfl
     have x2:(c :: t).drop 1=t:=rfl
     have g1:(((o.length+[c].length:Nat):Int)≤9223372036854775807)=True:=by simp;omega
     have g2:(((o.length+[(63:UInt8)].length:Nat):Int)≤9223372036854775807)=True:=by simp;omega
     have oi:=oth_int c
     have ho:othB c=if (decide (c.toNat=10) || inR c 33 126)=true then c else 63:=rfl
     cases hb:(decide (c.toNat=10) || inR c 33 126) with
     | true=>
      rw[hb]at oi ho
      simp only[if_true]at ho
      rw[ho]at hn
      by_cases h34:c=34
      ·obtain ⟨hx1,hx2⟩:=hx1 h34
       have qi:Lib.indexByte y 34=-1:=by
        rcases qi with ⟨a,_⟩|⟨_,b⟩
        ·rw[←h34]at a;omega
        ·exact b
       have d34:decide ((c.toNat:Int)=34)=true:=by rw[h34];decide
       have htl:t.length<(c :: t).length:=by simp
       have htl2:(c :: t).length=t.length+1:=rfl
       generalize hct:c :: t=L at *
       rcases hline with ⟨l1,l2,l3,l4⟩|⟨l1,l4⟩
       ·(replace hb0:=true_and True);refine Go1.mk ?_;repeat' ((first|(with_reducible refine Go1.go ?_)|((with_reducible first|refine brv_mk ?_ ?_|refine gsplitD ?_ ?_|refine gsplitG ?_ ?_)<;>intro h<;>(try simp only[Bool.not_eq_true',Bool.not_eq_false']at h)<;>replace hb0:=h)|(((with_reducible refine isCall (f:=69) ?_);refine callA_nil (by kernel_rfl) ?_;refine (strIx_ok _ _ ?_)))|(((with_reducible refine isCall (f:=70) ?_);refine callA_nil (by kernel_rfl) ?_;refine (span_ok L pathC pathB pathC_is (by omega) ?_)))|(((with_reducible refine isCall (f:=70) ?_);refine callA_nil (by kernel_rfl) ?_;refine (span_ok L blaC blankB blaC_is (by omega) ?_)))|((with_reducible refine isDraw [some 68,some 69,some 70,some 71,some 72,some 73,some 3,some 0] (by decide) ?_);refine draw_rule [(0,[]),(1,[]),(2,[]),(3,[]),(4,[]),(5,[]),(6,[5]),(7,[])] [[],[],[0,1],[],[],[3,4],[0,1,2],[0,1,2,3,4,5,6]] [68,69,70,71,72,73] [3] (by kernel_rfl) (by kernel_rfl) (by kernel_rfl) (by kernel_rfl) (by exact ⟨rfl,trivial⟩) ?_)|(refine And.intro ?_ ?_;(try simp only[sxO]at *);omega)|fail)<;>(try simp (maxSteps:=1000000) only [hb0,rnSt,tp,tb,d0,a0,a1,g0,hq,l1,l2,l3,l4,hx1,hx2,qi,d34,dm,p0,p1,p2,oi,x1,x2,g1,Int.toNat_one,bs_mk,bs_app,bs_ext,bs_size,bs_toList,bs_at,bs_cells,List.take_length,imp_ga,guard_pk,guard_pk2,↓hold_pre,awayP,runOps,regK,step1,newK,genR,appR,obl,buildR,Value.cells,closeK,keepH,outV,retK,ret1,retC,RetV,Option.getD,runD,stepD,afterK,undef,simprocAttr,sxB,↓sxD,sxE,sxTab]))
        exact done t [c] _ (by omega) (by simp only[List.length_cons,List.length_nil];omega) (by rw[←hrel,hn];rfl) rfl rfl rfl rfl rfl
       ·rw[←l4]at hx1 hx2
        obtain rfl:t=y:=x2.symm.trans hx1
        (replace hb0:=true_and True);refine Go1.mk ?_;repeat' ((first|(with_reducible refine Go1.go ?_)|((with_reducible first|refine brv_mk ?_ ?_|refine gsplitD ?_ ?_|refine gsplitG ?_ ?_)<;>intro h<;>(try simp only[Bool.not_eq_true',Bool.not_eq_false']at h)<;>replace hb0:=h)|(((with_reducible refine isCall (f:=69) ?_);refine callA_nil (by kernel_rfl) ?_;refine (strIx_ok _ _ ?_)))|(((with_reducible refine isCall (f:=70) ?_);refine callA_nil (by kernel_rfl) ?_;refine (span_ok L pathC pathB pathC_is (by omega) ?_)))|(((with_reducible refine isCall (f:=70) ?_);refine callA_nil (by kernel_rfl) ?_;refine (span_ok L blaC blankB blaC_is (by omega) ?_)))|((with_reducible refine isDraw [some 68,some 69,some 70,some 71,some 72,some 73,some 3,some 0] (by decide) ?_);refine draw_rule [(0,[]),(1,[]),(2,[]),(3,[]),(4,[]),(5,[]),(6,[5]),(7,[])] [[],[],[0,1],[],[],[3,4],[0,1,2],[0,1,2,3,4,5,6]] [68,69,70,71,72,73] [3] (by kernel_rfl) (by kernel_rfl) (by kernel_rfl) (by kernel_rfl) (by exact ⟨rfl,trivial⟩) ?_)|(refine And.intro ?_ ?_;(try simp only[sxO]at *);omega)|fail)<;>(try simp (maxSteps:=1000000) only [hb0,rnSt,tp,tb,d0,a0,a1,g0,hq,l1,hx2,qi,d34,dm,p0,p1,p2,oi,x1,x2,g1,Int.toNat_one,bs_mk,bs_app,bs_ext,bs_size,bs_toList,bs_at,bs_cells,List.take_length,imp_ga,guard_pk,guard_pk2,↓hold_pre,awayP,runOps,regK,step1,newK,genR,appR,obl,buildR,Value.cells,closeK,keepH,outV,retK,ret1,retC,RetV,Option.getD,runD,stepD,afterK,undef,simprocAttr,sxB,↓sxD,sxE,sxTab]))
        exact done t [c] _ (by omega) (by simp only[List.length_cons,List.length_nil];omega) (by rw[←hrel,hn];rfl) rfl rfl rfl rfl rfl
      ·have d34:decide ((c.toNat:Int)=34)=false:=by
        rw[decide_eq_false_iff_not];intro h;apply h34
        exact UInt8.toNat_inj.1 (by simpa using (by omega:c.toNat=34))
       have htl:t.length<(c :: t).length:=by simp
       have htl2:(c :: t).length=t.length+1:=rfl
       generalize hct:c :: t=L at *
       rcases hline with ⟨l1,l2,l3,l4⟩|⟨l1,l4⟩
       ·(replace hb0:=true_and True);refine Go1.mk ?_;repeat' ((first|(with_reducible refine Go1.go ?_)|((with_reducible first|refine brv_mk ?_ ?_|refine gsplitD ?_ ?_|refine gsplitG ?_ ?_)<;>intro h<;>(try simp only[Bool.not_eq_true',Bool.not_eq_false']at h)<;>replace hb0:=h)|(((with_reducible refine isCall (f:=69) ?_);refine callA_nil (by kernel_rfl) ?_;refine (strIx_ok _ _ ?_)))|(((with_reducible refine isCall (f:=70) ?_);refine callA_nil (by kernel_rfl) ?_;refine (span_ok L pathC pathB pathC_is (by omega) ?_)))|(((with_reducible refine isCall (f:=70) ?_);refine callA_nil (by kernel_rfl) ?_;refine (span_ok L blaC blankB blaC_is (by omega) ?_)))|((with_reducible refine isDraw [some 68,some 69,some 70,some 71,some 72,some 73,some 3,some 0] (by decide) ?_);refine draw_rule [(0,[]),(1,[]),(2,[]),(3,[]),(4,[]),(5,[]),(6,[5]),(7,[])] [[],[],[0,1],[],[],[3,4],[0,1,2],[0,1,2,3,4,5,6]] [68,69,70,71,72,73] [3] (by kernel_rfl) (by kernel_rfl) (by kernel_rfl) (by kernel_rfl) (by exact ⟨rfl,trivial⟩) ?_)|(refine And.intro ?_ ?_;(try simp only[sxO]at *);omega)|fail)<;>(try simp (maxSteps:=1000000) only [hb0,rnSt,tp,tb,d0,a0,a1,g0,hq,l1,l2,l3,l4,d34,dm,p0,p1,p2,oi,x1,x2,g1,Int.toNat_one,bs_mk,bs_app,bs_ext,bs_size,bs_toList,bs_at,bs_cells,List.take_length,imp_ga,guard_pk,guard_pk2,↓hold_pre,awayP,runOps,regK,step1,newK,genR,appR,obl,buildR,Value.cells,closeK,keepH,outV,retK,ret1,retC,RetV,Option.getD,runD,stepD,afterK,undef,simprocAttr,sxB,↓sxD,sxE,sxTab]))
        exact done t [c] _ (by omega) (by simp only[List.length_cons,List.length_nil];omega) (by rw[←hrel,hn];rfl) rfl rfl rfl rfl rfl
       ·(replace hb0:=true_and True);refine Go1.mk ?_;repeat' ((first|(with_reducible refine Go1.go ?_)|((with_reducible first|refine brv_mk ?_ ?_|refine gsplitD ?_ ?_|refine gsplitG ?_ ?_)<;>intro h<;>(try simp only[Bool.not_eq_true',Bool.not_eq_false']at h)<;>replace hb0:=h)|(((with_reducible refine isCall (f:=69) ?_);refine callA_nil (by kernel_rfl) ?_;refine (strIx_ok _ _ ?_)))|(((with_reducible refine isCall (f:=70) ?_);refine callA_nil (by kernel_rfl) ?_;refine (span_ok L pathC pathB pathC_is (by omega) ?_)))|(((with_reducible refine isCall (f:=70) ?_);refine callA_nil (by kernel_rfl) ?_;refine (span_ok L blaC blankB blaC_is (by omega) ?_)))|((with_reducible refine isDraw [some 68,some 69,some 70,some 71,some 72,some 73,some 3,some 0] (by decide) ?_);refine draw_rule [(0,[]),(1,[]),(2,[]),(3,[]),(4,[]),(5,[]),(6,[5]),(7,[])] [[],[],[0,1],[],[],[3,4],[0,1,2],[0,1,2,3,4,5,6]] [68,69,70,71,72,73] [3] (by kernel_rfl) (by kernel_rfl) (by kernel_rfl) (by kernel_rfl) (by exact ⟨rfl,trivial⟩) ?_)|(refine And.intro ?_ ?_;(try simp only[sxO]at *);omega)|fail)<;>(try simp (maxSteps:=1000000) only [hb0,rnSt,tp,tb,d0,a0,a1,g0,hq,l1,d34,dm,p0,p1,p2,oi,x1,x2,g1,Int.toNat_one,bs_mk,bs_app,bs_ext,bs_size,bs_toList,bs_at,bs_cells,List.take_length,imp_ga,guard_pk,guard_pk2,↓hold_pre,awayP,runOps,regK,step1,newK,genR,appR,obl,buildR,Value.cells,closeK,keepH,outV,retK,ret1,retC,RetV,Option.getD,runD,stepD,afterK,undef,simprocAttr,sxB,↓sxD,sxE,sxTab]))
        exact done t [c] _ (by omega) (by simp only[List.length_cons,List.length_nil];omega) (by rw[←hrel,hn];rfl) rfl rfl rfl rfl rfl
     | false=>
      rw[hb]at oi ho
      simp only[Bool.false_eq_true,if_false]at ho
      rw[ho]at hn
      have h34:c≠34:=fun h=>by rw[h]at hb;revert hb;decide
      have d34:decide ((c.toNat:Int)=34)=false:=by
       rw[decide_eq_false_iff_not];intro h;apply h34
       exact UInt8.toNat_inj.1 (by simpa using (by omega:c.toNat=34))
      have htl:t.length<(c :: t).length:=by simp
      have htl2:(c :: t).length=t.length+1:=rfl
      generalize hct:c :: t=L at *
      rcases hline with ⟨l1,l2,l3,l4⟩|⟨l1,l4⟩
      ·(replace hb0:=true_and True);refine Go1.mk ?_;repeat' ((first|(with_reducible refine Go1.go ?_)|((with_reducible first|refine brv_mk ?_ ?_|refine gsplitD ?_ ?_|refine gsplitG ?_ ?_)<;>intro h<;>(try simp only[Bool.not_eq_true',Bool.not_eq_false']at h)<;>replace hb0:=h)|(((with_reducible refine isCall (f:=69) ?_);refine callA_nil (by kernel_rfl) ?_;refine (strIx_ok _ _ ?_)))|(((with_reducible refine isCall (f:=70) ?_);refine callA_nil (by kernel_rfl) ?_;refine (span_ok L pathC pathB pathC_is (by omega) ?_)))|(((with_reducible refine isCall (f:=70) ?_);refine callA_nil (by kernel_rfl) ?_;refine (span_ok L blaC blankB blaC_is (by omega) ?_)))|((with_reducible refine isDraw [some 68,some 69,some 70,some 71,some 72,some 73,some 3,some 0] (by decide) ?_);refine draw_rule [(0,[]),(1,[]),(2,[]),(3,[]),(4,[]),(5,[]),(6,[5]),(7,[])] [[],[],[0,1],[],[],[3,4],[0,1,2],[0,1,2,3,4,5,6]] [68,69,70,71,72,73] [3] (by kernel_rfl) (by kernel_rfl) (by kernel_rfl) (by kernel_rfl) (by exact ⟨rfl,trivial⟩) ?_)|(refine And.intro ?_ ?_;(try simp only[sxO]at *);omega)|fail)<;>(try simp (maxSteps:=1000000) only [hb0,rnSt,tp,tb,d0,a0,a1,g0,hq,l1,l2,l3,l4,d34,dm,p0,p1,p2,oi,x1,x2,g2,Int.toNat_one,bs_mk,bs_app,bs_ext,bs_size,bs_toList,bs_at,bs_cells,List.take_length,imp_ga,guard_pk,guard_pk2,↓hold_pre,awayP,runOps,regK,step1,newK,genR,appR,obl,buildR,Value.cells,closeK,keepH,outV,retK,ret1,retC,RetV,Option.getD,runD,stepD,afterK,undef,simprocAttr,sxB,↓sxD,sxE,sxTab]))
       exact done t [63] _ (by omega) (by simp only[List.length_cons,List.length_nil];omega) (by rw[←hrel,hn];rfl) rfl rfl rfl rfl rfl
      ·(replace hb0:=true_and True);refine Go1.mk ?_;repeat' ((first|(with_reducible refine Go1.go ?_)|((with_reducible first|refine brv_mk ?_ ?_|refine gsplitD ?_ ?_|refine gsplitG ?_ ?_)<;>intro h<;>(try simp only[Bool.not_eq_true',Bool.not_eq_false']at h)<;>replace hb0:=h)|(((with_reducible refine isCall (f:=69) ?_);refine callA_nil (by kernel_rfl) ?_;refine (strIx_ok _ _ ?_)))|(((with_reducible refine isCall (f:=70) ?_);refine callA_nil (by kernel_rfl) ?_;refine (span_ok L pathC pathB pathC_is (by omega) ?_)))|(((with_reducible refine isCall (f:=70) ?_);refine callA_nil (by kernel_rfl) ?_;refine (span_ok L blaC blankB blaC_is (by omega) ?_)))|((with_reducible refine isDraw [some 68,some 69,some 70,some 71,some 72,some 73,some 3,some 0] (by decide) ?_);refine draw_rule [(0,[]),(1,[]),(2,[]),(3,[]),(4,[]),(5,[]),(6,[5]),(7,[])] [[],[],[0,1],[],[],[3,4],[0,1,2],[0,1,2,3,4,5,6]] [68,69,70,71,72,73] [3] (by kernel_rfl) (by kernel_rfl) (by kernel_rfl) (by kernel_rfl) (by exact ⟨rfl,trivial⟩) ?_)|(refine And.intro ?_ ?_;(try simp only[sxO]at *);omega)|fail)<;>(try simp (maxSteps:=1000000) only [hb0,rnSt,tp,tb,d0,a0,a1,g0,hq,l1,d34,dm,p0,p1,p2,oi,x1,x2,g2,Int.toNat_one,bs_mk,bs_app,bs_ext,bs_size,bs_toList,bs_at,bs_cells,List.take_length,imp_ga,guard_pk,guard_pk2,↓hold_pre,awayP,runOps,regK,step1,newK,genR,appR,obl,buildR,Value.cells,closeK,keepH,outV,retK,ret1,retC,RetV,Option.getD,runD,stepD,afterK,undef,simprocAttr,sxB,↓sxD,sxE,sxTab]))
       exact done t [63] _ (by omega) (by simp only[List.length_cons,List.length_nil];omega) (by rw[←hrel,hn];rfl) rfl rfl rfl rfl rfl
end
abbrev Fa:=Bst×Bst×Int×Bst×Value×List Stk
def faC(f:Fa):List Value:=[.string (bs f.1),.string (bs f.2.1),.int .i64 f.2.2.1,.string (bs f.2.2.2.1),f.2.2.2.2.1]
def faOk(M:Mem)(f:Fa):Prop:=IsR M 3 clC f.2.2.2.2.1 f.2.2.2.2.2∧f.2.2.2.2.2.length<1000000000000000∧f.2.2.2.1.length<1000000000000000∧∀c∈f.2.2.2.2.2,clOk c
section
variable {M:Mem}{K:AV→Hp→Mem→Prop}
theorem refSign_ok(p t:Bst)(e:Int)(m:Bst)(u:Value)(X:List Stk)(hu:IsR M 3 clC u X)(hX:X.length<1000000000000000)(hm:m.length<1000000000000000)(hs:∀c∈X,clOk c)
  (hK1:(usB p t&&plB e)=false→K (.ext (sgT [] (.slice none 0 0) 1)) [] M)
  (hK2:(usB p t&&plB e)=true→64<X.length→K (.ext (sgT [] (.slice none 0 0) 2)) [] M)
  (hK3:(usB p t&&plB e)=true→X.length≤64→∀u' M',Mem.le M M'→IsL M' sbV u' (stkB X)→K (.ext (sgT (normalB m) u' 0)) [] M') :
  CallS Tryz.prog 32 [.ext (faV p t e m u)] [] M [] K:=by
 refine inlS (cs:=[]) Tryz.mixed Tryz.func32 rfl (by kernel_rfl) 0 rfl rfl ?_
 simp only[Tryz.f32]
 have hpl:plB e=(decide (0≤e)&&decide (e≤63)):=rfl
 cases hok:(usB p t&&plB e) with
 | false=>
  cases hus:usB p t with
  | false=>
   (replace hb0:=true_and True);refine Go1.mk ?_;repeat' ((first|(with_reducible refine Go1.go ?_)|((with_reducible first|refine brv_mk ?_ ?_|refine gsplitD ?_ ?_|refine gsplitG ?_ ?_)<;>intro h<;>(try simp only[Bool.not_eq_true',Bool.not_eq_false']at h)<;>replace hb0:=h)|(((with_reducible refine isCall (f:=49) ?_);refine callA_nil (by kernel_rfl) ?_;refine (refUsable_ok p t ?_)))|((with_reducible refine isDraw [some 20,some 21,some 22,some 23,some 24,some 25,some 26,none,some 3] (by decide) ?_);refine draw_rule [(0,[]),(1,[]),(3,[1]),(4,[1]),(2,[4]),(5,[]),(6,[]),(7,[]),(8,[])] [[],[0],[0,1],[],[3],[0,1,2,3,4],[0,1,2,3,4,5],[0,1,2,3,4,5,6],[0,1,2,3,4,5,6,7]] [20,21,22,23,24] [] (by kernel_rfl) (by kernel_rfl) (by kernel_rfl) (by kernel_rfl) (by exact trivial) ?_)|(refine And.intro ?_ ?_;(try simp only[sxO]at *);omega)|fail)<;>(try simp (maxSteps:=1000000) only [hb0,faV,hus,hu.one,hu.len,hu.sl,hasK_nil,bs_mk,bs_app,bs_ext,bs_size,bs_toList,bs_at,bs_cells,List.take_length,imp_ga,guard_pk,guard_pk2,↓hold_pre,awayP,runOps,regK,step1,newK,genR,appR,obl,buildR,Value.cells,closeK,keepH,outV,retK,ret1,retC,RetV,Option.getD,runD,stepD,afterK,undef,simprocAttr,sxB,↓sxD,sxE,sxTab]))
   exact hK1 hok
  | true=>
   have hp2:(decide (0≤e)&&decide (e≤63))=false:=by rw[hus,Bool.true_and,hpl]at hok;exact hok
   (replace hb0:=true_and True);refine Go1.mk ?_;repeat' ((first|(with_reducible refine Go1.go ?_)|((with_reducible first|refine brv_mk ?_ ?_|refine gsplitD ?_ ?_|refine gsplitG ?_ ?_)<;>intro h<;>(try simp only[Bool.not_eq_true',Bool.not_eq_false']at h)<;>replace hb0:=h)|(((with_reducible refine isCall (f:=49) ?_);refine callA_nil (by kernel_rfl) ?_;refine (refUsable_ok p t ?_)))|(((with_reducible refine isCall (f:=50) ?_);refine callA_nil (by kernel_rfl) ?_;refine (refPlace_ok e ?_)))|((with_reducible refine isDraw [some 20,some 21,some 22,some 23,some 24,some 25,some 26,none,some 3] (by decide) ?_);refine draw_rule [(0,[]),(1,[]),(3,[1]),(4,[1]),(2,[4]),(5,[]),(6,[]),(7,[]),(8,[])] [[],[0],[0,1],[],[3],[0,1,2,3,4],[0,1,2,3,4,5],[0,1,2,3,4,5,6],[0,1,2,3,4,5,6,7]] [20,21,22,23,24] [] (by kernel_rfl) (by kernel_rfl) (by kernel_rfl) (by kernel_rfl) (by exact trivial) ?_)|(refine And.intro ?_ ?_;(try simp only[sxO]at *);omega)|fail)<;>(try simp (maxSteps:=1000000) only [hb0,faV,hus,hp2,hu.one,hu.len,hu.sl,hasK_nil,bs_mk,bs_app,bs_ext,bs_size,bs_toList,bs_at,bs_cells,List.take_length,imp_ga,guard_pk,guard_pk2,↓hold_pre,awayP,runOps,regK,step1,newK,genR,appR,obl,buildR,Value.cells,closeK,keepH,outV,retK,ret1,retC,RetV,Option.getD,runD,stepD,afterK,undef,simprocAttr,sxB,↓sxD,sxE,sxTab]))
   exact hK1 hok
 | true=>
  have hus:usB p t=true:=(Bool.and_eq_true_iff.1 hok).1
  have hp2:(decide (0≤e)&&decide (e≤63))=true:=by rw[hus,Bool.true_and,hpl]at hok;exact hok
  by_cases hl:64<X.length
  ·have d1:decide ((64:Int)<(X.length:Int))=true:=by simp;omega
   (replace hb0:=true_and True);refine Go1.mk ?_;repeat' ((first|(with_reducible refine Go1.go ?_)|((with_reducible first|refine brv_mk ?_ ?_|refine gsplitD ?_ ?_|refine gsplitG ?_ ?_)<;>intro h<;>(try simp only[Bool.not_eq_true',Bool.not_eq_false']at h)<;>replace hb0:=h)|(((with_reducible refine isCall (f:=49) ?_);refine callA_nil (by kernel_rfl) ?_;refine (refUsable_ok p t ?_)))|(((with_reducible refine isCall (f:=50) ?_);refine callA_nil (by kernel_rfl) ?_;refine (refPlace_ok e ?_)))|((with_reducible refine isDraw [some 20,some 21,some 22,some 23,some 24,some 25,some 26,none,some 3] (by decide) ?_);refine draw_rule [(0,[]),(1,[]),(3,[1]),(4,[1]),(2,[4]),(5,[]),(6,[]),(7,[]),(8,[])] [[],[0],[0,1],[],[3],[0,1,2,3,4],[0,1,2,3,4,5],[0,1,2,3,4,5,6],[0,1,2,3,4,5,6,7]] [20,21,22,23,24] [] (by kernel_rfl) (by kernel_rfl) (by kernel_rfl) (by kernel_rfl) (by exact trivial) ?_)|(refine And.intro ?_ ?_;(try simp only[sxO]at *);omega)|fail)<;>(try simp (maxSteps:=1000000) only [hb0,faV,hus,hp2,d1,hu.one,hu.len,hu.sl,hasK_nil,bs_mk,bs_app,bs_ext,bs_size,bs_toList,bs_at,bs_cells,List.take_length,imp_ga,guard_pk,guard_pk2,↓hold_pre,awayP,runOps,regK,step1,newK,genR,appR,obl,buildR,Value.cells,closeK,keepH,outV,retK,ret1,retC,RetV,Option.getD,runD,stepD,afterK,undef,simprocAttr,sxB,↓sxD,sxE,sxTab]))
   exact hK2 hok hl
  ·have d1:decide ((64:Int)<(X.length:Int))=false:=by simp;omega
   (replace hb0:=true_and True);refine Go1.mk ?_;repeat' ((first|(with_reducible refine Go1.go ?_)|((with_reducible first|refine brv_mk ?_ ?_|refine gsplitD ?_ ?_|refine gsplitG ?_ ?_)<;>intro h<;>(try simp only[Bool.not_eq_true',Bool.not_eq_false']at h)<;>replace hb0:=h)|(((with_reducible refine isCall (f:=49) ?_);refine callA_nil (by kernel_rfl) ?_;refine (refUsable_ok p t ?_)))|(((with_reducible refine isCall (f:=50) ?_);refine callA_nil (by kernel_rfl) ?_;refine (refPlace_ok e ?_)))|(((with_reducible refine isCall0 (f:=51) ?_);refine callA0_nil (by kernel_rfl) ?_;refine (refNormal_ok m hm ?_)))|(((with_reducible refine isCall0 (f:=52) ?_);refine callA0_nil (by kernel_rfl) ?_;refine (refCalls_ok u X hu (by omega) hs (fun u2 M2 hM2 h2=>Stop.mk ?_))))|((with_reducible refine isDraw [some 20,some 21,some 22,some 23,some 24,some 25,some 26,none,some 3] (by decide) ?_);refine draw_rule [(0,[]),(1,[]),(3,[1]),(4,[1]),(2,[4]),(5,[]),(6,[]),(7,[]),(8,[])] [[],[0],[0,1],[],[3],[0,1,2,3,4],[0,1,2,3,4,5],[0,1,2,3,4,5,6],[0,1,2,3,4,5,6,7]] [20,21,22,23,24] [] (by kernel_rfl) (by kernel_rfl) (by kernel_rfl) (by kernel_rfl) (by exact trivial) ?_)|(refine And.intro ?_ ?_;(try simp only[sxO]at *);omega)|fail)<;>(try simp (maxSteps:=1000000) only [hb0,faV,hus,hp2,d1,hu.one,hu.len,hu.sl,hasK_nil,bs_mk,bs_app,bs_ext,bs_size,bs_toList,bs_at,bs_cells,List.take_length,imp_ga,guard_pk,guard_pk2,↓hold_pre,awayP,runOps,regK,step1,newK,genR,appR,obl,buildR,Value.cells,closeK,keepH,outV,retK,ret1,retC,RetV,Option.getD,runD,stepD,afterK,undef,simprocAttr,sxB,↓sxD,sxE,sxTab]))
   exact Stop.go ⟨h2.one,h2.one,hK3 hok (by omega) _ _ hM2 h2⟩
end
def joinB:List Bst→Bst
 | []=>[]
 | c :: r=>(c++[10])++joinB r
theorem joinB_snoc:∀(L:List Bst) (c:Bst),joinB (L++[c])=joinB L++(c++[10])
 | [],c=>by simp[joinB]
 | x :: L,c=>by rw[List.cons_append,joinB,joinB,joinB_snoc L c];simp only[List.append_assoc]
def stkK(C:List Bst):Bst:=[115]++joinB C
theorem stkK_snoc(C:List Bst)(c:Bst):stkK (C++[c])=stkK C++(c++[10]):=by unfold stkK;rw[joinB_snoc,List.append_assoc]
theorem joinB_len:∀(L:List Bst) (B:Nat),(∀c∈L,c.length≤B)→(joinB L).length≤L.length*(B+1)
 | [],B,_=>by simp[joinB]
 | x :: L,B,h=>by
  have h1:=joinB_len L B fun c hc=>h c (List.mem_cons_of_mem _ hc)
  have h2:=h x List.mem_cons_self
  have h3:(x :: L).length*(B+1)=L.length*(B+1)+(B+1):=by rw[List.length_cons,Nat.succ_mul]
  rw[h3,joinB,List.length_append,List.length_append,List.length_singleton];omega
def keyB(m:Bst)(C:List Bst)(d:Nat):List Bst:=(if m=[] then [] else [[109]++m])++(if d≤C.length then [stkK (C.take d)] else [])
def keysB(m:Bst)(C:List Bst)(d:Int):List Bst:=if 1≤d∧d≤16 then (if keyB m C d.toNat=[] then [[101]] else keyB m C d.toNat) else []
def okB(m:Bst)(C:List Bst):Prop:=m.length<1000000000000000∧C.length<1000000∧∀c∈C,c.length<1000000000000000
theorem frz_strs{K:AV→Hp→Mem→Prop}{M:Mem}{k n:Nat}{T:TypeId}(L:List Bst)(hn:n=L.length)(h:∀u M'',Mem.le M M''→IsL M'' sbV u L→FreshS M u→K (.ext u) [] M''):FrzF K [] (.slo k 0 n 1) [(k,T,cE sbV L)] M:=
 FrzF.rest (L.map sbV) rfl (by simp[hn]) rfl rfl fun u M'' hM hs hf=>h u M'' hM (by unfold IsL;rw[←hn];exact hs) hf
section
variable {M:Mem}{K:AV→Hp→Mem→Prop}
def gkySt(M:Mem)(x:AV)(h:Hp)(w:Value)(n i:Nat)(s:Bst):St:={env:=[(34,.ext (.int .i64 (i:Int))),(33,.ext (.int .i64 (n:Int))),(32,.ext w),(6,.ext (.string (bs s))),(5,x)],hp:=h,M:=M,kb:=0,fx:=[]}
theorem gkeys_ok(m:Bst)(u:Value)(C:List Bst)(d:Int)(hu:IsL M sbV u C)(hb:okB m C)(hK:∀v M',Mem.le M M'→IsL M' sbV v (keysB m C d)→FreshS M v→K (.ext v) [] M'):CallS Tryz.prog 18 [.ext (.agg #[.string (bs m),u]),.ext (.int .i64 d)] [] M [] K:=by
 refine CallS.frzF ?_
 refine inlS (cs:=[]) Tryz.mixed Tryz.func18 rfl (by kernel_rfl) 0 rfl rfl ?_
 simp only[Tryz.f18]
 obtain ⟨hb1,hb2,hb3⟩:=hb
 have uo:=hu.one
 have ul:=hu.len
 have us:=hu.sl
 have e0:(⟨#[]⟩:ByteArray)=bs []:=rfl
 have e1:(⟨#[109]⟩:ByteArray)=bs [109]:=rfl
 have e2:(⟨#[115]⟩:ByteArray)=bs [115]:=rfl
 have e3:(⟨#[10]⟩:ByteArray)=bs [10]:=rfl
 have e5:(⟨#[101]⟩:ByteArray)=bs [101]:=rfl
 by_cases hd1:d<1
 ·have d1:decide (d<1)=true:=decide_eq_true hd1
  unfold keysB at hK
  rw[if_neg (by omega)]at hK
  refine Go1.mk ?_;repeat' ((first|(with_reducible refine Go1.go ?_)|(refine And.intro ?_ ?_;(try simp only[sxO]at *);omega)|fail)<;>(try simp (maxSteps:=1000000) only [d1,uo,bs_mk,bs_app,bs_ext,bs_size,bs_toList,bs_at,bs_cells,List.take_length,imp_ga,guard_pk,guard_pk2,↓hold_pre,awayP,runOps,regK,step1,newK,genR,appR,obl,buildR,Value.cells,closeK,keepH,outV,retK,ret1,retC,RetV,Option.getD,runD,stepD,afterK,undef,simprocAttr,sxB,↓sxD,sxE,sxTab]))
  exact .inl (hK _ M (Mem.le.refl _) (isL_nil _ _ _) (.inl rfl))
 have d1:decide (d<1)=false:=decide_eq_false hd1
 by_cases hd2:16<d
 ·have d2:decide (16<d)=true:=decide_eq_true hd2
  unfold keysB at hK
  rw[if_neg (by omega)]at hK
  refine Go1.mk ?_;repeat' ((first|(with_reducible refine Go1.go ?_)|(refine And.intro ?_ ?_;(try simp only[sxO]at *);omega)|fail)<;>(try simp (maxSteps:=1000000) only [d1,d2,uo,bs_mk,bs_app,bs_ext,bs_size,bs_toList,bs_at,bs_cells,List.take_length,imp_ga,guard_pk,guard_pk2,↓hold_pre,awayP,runOps,regK,step1,newK,genR,appR,obl,buildR,Value.cells,closeK,keepH,outV,retK,ret1,retC,RetV,Option.getD,runD,stepD,afterK,undef,simprocAttr,sxB,↓sxD,sxE,sxTab]))
  exact .inl (hK _ M (Mem.le.refl _) (isL_nil _ _ _) (.inl rfl))
 have d2:decide (16<d)=false:=decide_eq_false hd2
 obtain ⟨n,rfl⟩:=Int.eq_ofNat_of_zero_le (show 0≤d by omega)
 unfold keysB at hK
 rw[if_pos (by omega),Int.toNat_natCast]at hK
 have g0:(((([(109:UInt8)].length+m.length:Nat):Int))≤9223372036854775807)=True:=by simp;omega
 by_cases hm:m=[]
 ·have hm0:(m==[])=true:=by rw[hm];rfl
  by_cases hc:n≤C.length
  ·have d4:decide ((n:Int)≤(C.length:Int))=true:=by rw[decide_eq_true_eq];omega
   have hkk:keyB m C n=[stkK (C.take n)]:=by unfold keyB;rw[if_pos hm,if_pos hc];rfl
   rw[if_neg (by rw[hkk];simp),hkk]at hK
   have hcap:=hu.cap
   have q1:(0:Int)≤(n:Int):=by omega
   have q3:(n:Int)≤(scap u:Int):=by omega
   have hsub:=hu.sub (i:=0) (j:=n) (by omega) (by omega)
   rw[List.drop_zero,Nat.sub_zero]at hsub
   have hsl:(C.take n).length=n:=by rw[List.length_take];omega
   have so:=hsub.one
   have sl:=hsub.len
   have ss:=hsub.sl
   rw[hsl]at sl
   refine Go1.mk ?_;repeat' ((first|(with_reducible refine Go1.go ?_)|(refine And.intro ?_ ?_;(try simp only[sxO]at *);omega)|fail)<;>(try simp (maxSteps:=1000000) only [hm0,d1,d2,d4,g0,e0,e1,e2,e3,e5,bs_app,bs_size,uo,ul,us,q1,q3,so,sl,ss,Int.toNat_zero,Int.toNat_natCast,bs_mk,bs_app,bs_ext,bs_size,bs_toList,bs_at,bs_cells,List.take_length,imp_ga,guard_pk,guard_pk2,↓hold_pre,awayP,runOps,regK,step1,newK,genR,appR,obl,buildR,Value.cells,closeK,keepH,outV,retK,ret1,retC,RetV,Option.getD,runD,stepD,afterK,undef,simprocAttr,sxB,↓sxD,sxE,sxTab]))
   refine ⟨fun k z=>∃i,k=n-i∧i≤n∧z=gkySt M (.ext (.slice none 0 0)) [] (subS u 1 0 n) n i (stkK (C.take i)),
    ⟨n,gkySt M (.ext (.slice none 0 0)) [] (subS u 1 0 n) n 0 (stkK (C.take 0)),le_sub ⟨rfl,rfl,rfl,rfl,rfl,trivial⟩ trivial rfl rfl rfl (keepLt_of rfl),⟨0,by omega,by omega,rfl⟩⟩,?_⟩
   rintro k z ⟨i,rfl,hi,rfl⟩
   by_cases hlt:i<n
   ·have y1:decide ((i:Int)<(n:Int))=true:=by rw[decide_eq_true_eq];omega
    have wi:IntKind.i64.wrap ((i:Int)+1)=((i+1:Nat):Int):=by rw[wrap_id (by omega) (by omega)];omega
    have y2:(0:Int)≤(i:Int):=by omega
    have y3:(i:Int)<(n:Int):=by omega
    have fs:=(hsub.idx (P:=Tryz.prog) (T:=9) tk9 tz9 (by omega) (show i<(C.take n).length by omega)).1
    have fn:=hsub.nn (show i<(C.take n).length by omega)
    rw[List.getElem_take]at fs
    have hsn:stkK (C.take (i+1))=stkK (C.take i)++(C[i]++[10]):=by rw[List.take_succ_eq_append_getElem (by omega),stkK_snoc]
    have hcl:=hb3 _ (List.getElem_mem (show i<C.length by omega))
    have hjl:=joinB_len (C.take i) 1000000000000000 fun c hc=>Nat.le_of_lt (hb3 c (List.mem_of_mem_take hc))
    rw[List.length_take,Nat.min_eq_left (by omega)]at hjl
    have hsl2:(stkK (C.take i)).length≤100000000000000000:=by
     unfold stkK
     rw[List.length_append]
     have:i*(1000000000000000+1)≤16*(1000000000000000+1):=Nat.mul_le_mul_right _ (by omega)
     simp only[List.length_cons,List.length_nil];omega
    generalize C[i]=ci at *
    have g1:((((ci.length+[(10:UInt8)].length:Nat):Int))≤9223372036854775807)=True:=by simp;omega
    have g2:(((((stkK (C.take i)).length+(ci++[(10:UInt8)]).length:Nat):Int))≤9223372036854775807)=True:=by simp;omega
    refine Go1.mk ?_;repeat' ((first|(with_reducible refine Go1.go ?_)|(refine And.intro ?_ ?_;(try simp only[sxO]at *);omega)|fail)<;>(try simp (maxSteps:=1000000) only [gkySt,sbV,y1,y2,y3,wi,fs,fn,g1,g2,e3,bs_app,bs_size,uo,ul,us,q1,q3,so,sl,ss,Int.toNat_zero,Int.toNat_natCast,bs_mk,bs_app,bs_ext,bs_size,bs_toList,bs_at,bs_cells,List.take_length,imp_ga,guard_pk,guard_pk2,↓hold_pre,awayP,runOps,regK,step1,newK,genR,appR,obl,buildR,Value.cells,closeK,keepH,outV,retK,ret1,retC,RetV,Option.getD,runD,stepD,afterK,undef,simprocAttr,sxB,↓sxD,sxE,sxTab]))
    exact ⟨n-(i+1),gkySt M (.ext (.slice none 0 0)) [] (subS u 1 0 n) n (i+1) (stkK (C.take (i+1))),by omega,le_sub ⟨rfl,rfl,rfl,by rw[hsn];rfl,rfl,trivial⟩ trivial rfl rfl rfl (keepLt_of rfl),i+1,rfl,by omega,rfl⟩
   ·obtain rfl:i=n:=by omega
    have y1:decide ((i:Int)<(i:Int))=false:=by simp
    refine Go1.mk ?_;repeat' ((first|(with_reducible refine Go1.go ?_)|(refine And.intro ?_ ?_;(try simp only[sxO]at *);omega)|fail)<;>(try simp (maxSteps:=1000000) only [gkySt,sbV,y1,e5,bs_app,bs_size,uo,ul,us,q1,q3,so,sl,ss,Int.toNat_zero,Int.toNat_natCast,bs_mk,bs_app,bs_ext,bs_size,bs_toList,bs_at,bs_cells,List.take_length,imp_ga,guard_pk,guard_pk2,↓hold_pre,awayP,runOps,regK,step1,newK,genR,appR,obl,buildR,Value.cells,closeK,keepH,outV,retK,ret1,retC,RetV,Option.getD,runD,stepD,afterK,undef,simprocAttr,sxB,↓sxD,sxE,sxTab]))
    exact frz_strs [stkK (C.take i)] rfl hK
  ·have d4:decide ((n:Int)≤(C.length:Int))=false:=by rw[decide_eq_false_iff_not];omega
   have hkk:keyB m C n=[]:=by unfold keyB;rw[if_pos hm,if_neg hc];rfl
   rw[if_pos hkk]at hK
   refine Go1.mk ?_;repeat' ((first|(with_reducible refine Go1.go ?_)|(refine And.intro ?_ ?_;(try simp only[sxO]at *);omega)|fail)<;>(try simp (maxSteps:=1000000) only [hm0,d1,d2,d4,g0,e0,e1,e2,e3,e5,bs_app,bs_size,uo,ul,us,bs_mk,bs_app,bs_ext,bs_size,bs_toList,bs_at,bs_cells,List.take_length,imp_ga,guard_pk,guard_pk2,↓hold_pre,awayP,runOps,regK,step1,newK,genR,appR,obl,buildR,Value.cells,closeK,keepH,outV,retK,ret1,retC,RetV,Option.getD,runD,stepD,afterK,undef,simprocAttr,sxB,↓sxD,sxE,sxTab]))
   exact frz_strs [[101]] rfl hK
 ·have hm0:(m==[])=false:=by simpa using hm
  by_cases hc:n≤C.length
  ·have d4:decide ((n:Int)≤(C.length:Int))=true:=by rw[decide_eq_true_eq];omega
   have hkk:keyB m C n=[[109]++m,stkK (C.take n)]:=by unfold keyB;rw[if_neg hm,if_pos hc];rfl
   rw[if_neg (by rw[hkk];simp),hkk]at hK
   have hcap:=hu.cap
   have q1:(0:Int)≤(n:Int):=by omega
   have q3:(n:Int)≤(scap u:Int):=by omega
   have hsub:=hu.sub (i:=0) (j:=n) (by omega) (by omega)
   rw[List.drop_zero,Nat.sub_zero]at hsub
   have hsl:(C.take n).length=n:=by rw[List.length_take];omega
   have so:=hsub.one
   have sl:=hsub.len
   have ss:=hsub.sl
   rw[hsl]at sl
   refine Go1.mk ?_;repeat' ((first|(with_reducible refine Go1.go ?_)|(refine And.intro ?_ ?_;(try simp only[sxO]at *);omega)|fail)<;>(try simp (maxSteps:=1000000) only [hm0,d1,d2,d4,g0,e0,e1,e2,e3,e5,bs_app,bs_size,uo,ul,us,q1,q3,so,sl,ss,Int.toNat_zero,Int.toNat_natCast,bs_mk,bs_app,bs_ext,bs_size,bs_toList,bs_at,bs_cells,List.take_length,imp_ga,guard_pk,guard_pk2,↓hold_pre,awayP,runOps,regK,step1,newK,genR,appR,obl,buildR,Value.cells,closeK,keepH,outV,retK,ret1,retC,RetV,Option.getD,runD,stepD,afterK,undef,simprocAttr,sxB,↓sxD,sxE,sxTab]))
   refine ⟨fun k z=>∃i,k=n-i∧i≤n∧z=gkySt M (.slo 23 0 1 1) [(23,9,[.ext (.string (bs ([109]++m)))])] (subS u 1 0 n) n i (stkK (C.take i)),
    ⟨n,gkySt M (.slo 23 0 1 1) [(23,9,[.ext (.string (bs ([109]++m)))])] (subS u 1 0 n) n 0 (stkK (C.take 0)),le_sub ⟨rfl,rfl,rfl,rfl,rfl,trivial⟩ ⟨rfl,trivial⟩ rfl rfl rfl (keepLt_of rfl),⟨0,by omega,by omega,rfl⟩⟩,?_⟩
   rintro k z ⟨i,rfl,hi,rfl⟩
   by_cases hlt:i<n
   ·have y1:decide ((i:Int)<(n:Int))=true:=by rw[decide_eq_true_eq];omega
    have wi:IntKind.i64.wrap ((i:Int)+1)=((i+1:Nat):Int):=by rw[wrap_id (by omega) (by omega)];omega
    have y2:(0:Int)≤(i:Int):=by omega
    have y3:(i:Int)<(n:Int):=by omega
    have fs:=(hsub.idx (P:=Tryz.prog) (T:=9) tk9 tz9 (by omega) (show i<(C.take n).length by omega)).1
    have fn:=hsub.nn (show i<(C.take n).length by omega)
    rw[List.getElem_take]at fs
    have hsn:stkK (C.take (i+1))=stkK (C.take i)++(C[i]++[10]):=by rw[List.take_succ_eq_append_getElem (by omega),stkK_snoc]
    have hcl:=hb3 _ (List.getElem_mem (show i<C.length by omega))
    have hjl:=joinB_len (C.take i) 1000000000000000 fun c hc=>Nat.le_of_lt (hb3 c (List.mem_of_mem_take hc))
    rw[List.length_take,Nat.min_eq_left (by omega)]at hjl
    have hsl2:(stkK (C.take i)).length≤100000000000000000:=by
     unfold stkK
     rw[List.length_append]
     have:i*(1000000000000000+1)≤16*(1000000000000000+1):=Nat.mul_le_mul_right _ (by omega)
     simp only[List.length_cons,List.length_nil];omega
    generalize C[i]=ci at *
    have g1:((((ci.length+[(10:UInt8)].length:Nat):Int))≤9223372036854775807)=True:=by simp;omega
    have g2:(((((stkK (C.take i)).length+(ci++[(10:UInt8)]).length:Nat):Int))≤9223372036854775807)=True:=by simp;omega
    refine Go1.mk ?_;repeat' ((first|(with_reducible refine Go1.go ?_)|(refine And.intro ?_ ?_;(try simp only[sxO]at *);omega)|fail)<;>(try simp (maxSteps:=1000000) only [gkySt,sbV,y1,y2,y3,wi,fs,fn,g1,g2,e3,bs_app,bs_size,uo,ul,us,q1,q3,so,sl,ss,Int.toNat_zero,Int.toNat_natCast,bs_mk,bs_app,bs_ext,bs_size,bs_toList,bs_at,bs_cells,List.take_length,imp_ga,guard_pk,guard_pk2,↓hold_pre,awayP,runOps,regK,step1,newK,genR,appR,obl,buildR,Value.cells,closeK,keepH,outV,retK,ret1,retC,RetV,Option.getD,runD,stepD,afterK,undef,simprocAttr,sxB,↓sxD,sxE,sxTab]))
    exact ⟨n-(i+1),gkySt M (.slo 23 0 1 1) [(23,9,[.ext (.string (bs ([109]++m)))])] (subS u 1 0 n) n (i+1) (stkK (C.take (i+1))),by omega,le_sub ⟨rfl,rfl,rfl,by rw[hsn];rfl,rfl,trivial⟩ ⟨rfl,trivial⟩ rfl rfl rfl (keepLt_of rfl),i+1,rfl,by omega,rfl⟩
   ·obtain rfl:i=n:=by omega
    have y1:decide ((i:Int)<(i:Int))=false:=by simp
    refine Go1.mk ?_;repeat' ((first|(with_reducible refine Go1.go ?_)|(refine And.intro ?_ ?_;(try simp only[sxO]at *);omega)|fail)<;>(try simp (maxSteps:=1000000) only [gkySt,sbV,y1,e5,bs_app,bs_size,uo,ul,us,q1,q3,so,sl,ss,Int.toNat_zero,Int.toNat_natCast,bs_mk,bs_app,bs_ext,bs_size,bs_toList,bs_at,bs_cells,List.take_length,imp_ga,guard_pk,guard_pk2,↓hold_pre,awayP,runOps,regK,step1,newK,genR,appR,obl,buildR,Value.cells,closeK,keepH,outV,retK,ret1,retC,RetV,Option.getD,runD,stepD,afterK,undef,simprocAttr,sxB,↓sxD,sxE,sxTab]))
    exact frz_strs [[109]++m,stkK (C.take i)] rfl hK
  ·have d4:decide ((n:Int)≤(C.length:Int))=false:=by rw[decide_eq_false_iff_not];omega
   have hkk:keyB m C n=[[109]++m]:=by unfold keyB;rw[if_neg hm,if_neg hc];rfl
   rw[if_neg (by rw[hkk];simp),hkk]at hK
   refine Go1.mk ?_;repeat' ((first|(with_reducible refine Go1.go ?_)|(refine And.intro ?_ ?_;(try simp only[sxO]at *);omega)|fail)<;>(try simp (maxSteps:=1000000) only [hm0,d1,d2,d4,g0,e0,e1,e2,e3,e5,bs_app,bs_size,uo,ul,us,bs_mk,bs_app,bs_ext,bs_size,bs_toList,bs_at,bs_cells,List.take_length,imp_ga,guard_pk,guard_pk2,↓hold_pre,awayP,runOps,regK,step1,newK,genR,appR,obl,buildR,Value.cells,closeK,keepH,outV,retK,ret1,retC,RetV,Option.getD,runD,stepD,afterK,undef,simprocAttr,sxB,↓sxD,sxE,sxTab]))
   exact frz_strs [[109]++m] rfl hK
def rkySt(M:Mem)(x:AV)(h:Hp)(n i:Nat)(s:Bst):St:={env:=[(7,.ext (.int .i64 (i:Int))),(6,.ext (.string (bs s))),(5,x),(2,.own 2 0),(1,.ext (.int .i64 (n:Int)))],hp:=h,M:=M,kb:=0,fx:=[]}
theorem rkeys_ok(m:Bst)(u:Value)(C:List Bst)(d:Int)(hu:IsL M sbV u C)(hb:okB m C)(hK:∀v M',Mem.le M M'→IsL M' sbV v (keysB m C d)→FreshS M v→K (.ext v) [] M'):CallS Tryz.prog 53 [.ext (.agg #[.string (bs m),u]),.ext (.int .i64 d)] [] M [] K:=by
 refine CallS.frzF ?_
 refine inlS (cs:=[]) Tryz.mixed Tryz.func53 rfl (by kernel_rfl) 0 rfl rfl ?_
 simp only[Tryz.f53]
 obtain ⟨hb1,hb2,hb3⟩:=hb
 have uo:=hu.one
 have ul:=hu.len
 have us:=hu.sl
 have e0:(⟨#[]⟩:ByteArray)=bs []:=rfl
 have e1:(⟨#[109]⟩:ByteArray)=bs [109]:=rfl
 have e2:(⟨#[115]⟩:ByteArray)=bs [115]:=rfl
 have e3:(⟨#[10]⟩:ByteArray)=bs [10]:=rfl
 have e5:(⟨#[101]⟩:ByteArray)=bs [101]:=rfl
 by_cases hd1:d<1
 ·have d1:decide (d<1)=true:=decide_eq_true hd1
  unfold keysB at hK
  rw[if_neg (by omega)]at hK
  refine Go1.mk ?_;repeat' ((first|(with_reducible refine Go1.go ?_)|(refine And.intro ?_ ?_;(try simp only[sxO]at *);omega)|fail)<;>(try simp (maxSteps:=1000000) only [d1,uo,bs_mk,bs_app,bs_ext,bs_size,bs_toList,bs_at,bs_cells,List.take_length,imp_ga,guard_pk,guard_pk2,↓hold_pre,awayP,runOps,regK,step1,newK,genR,appR,obl,buildR,Value.cells,closeK,keepH,outV,retK,ret1,retC,RetV,Option.getD,runD,stepD,afterK,undef,simprocAttr,sxB,↓sxD,sxE,sxTab]))
  exact .inl (hK _ M (Mem.le.refl _) (isL_nil _ _ _) (.inl rfl))
 have d1:decide (d<1)=false:=decide_eq_false hd1
 by_cases hd2:16<d
 ·have d2:decide (16<d)=true:=decide_eq_true hd2
  unfold keysB at hK
  rw[if_neg (by omega)]at hK
  refine Go1.mk ?_;repeat' ((first|(with_reducible refine Go1.go ?_)|(refine And.intro ?_ ?_;(try simp only[sxO]at *);omega)|fail)<;>(try simp (maxSteps:=1000000) only [d1,d2,uo,bs_mk,bs_app,bs_ext,bs_size,bs_toList,bs_at,bs_cells,List.take_length,imp_ga,guard_pk,guard_pk2,↓hold_pre,awayP,runOps,regK,step1,newK,genR,appR,obl,buildR,Value.cells,closeK,keepH,outV,retK,ret1,retC,RetV,Option.getD,runD,stepD,afterK,undef,simprocAttr,sxB,↓sxD,sxE,sxTab]))
  exact .inl (hK _ M (Mem.le.refl _) (isL_nil _ _ _) (.inl rfl))
 have d2:decide (16<d)=false:=decide_eq_false hd2
 obtain ⟨n,rfl⟩:=Int.eq_ofNat_of_zero_le (show 0≤d by omega)
 unfold keysB at hK
 rw[if_pos (by omega),Int.toNat_natCast]at hK
 have g0:(((([(109:UInt8)].length+m.length:Nat):Int))≤9223372036854775807)=True:=by simp;omega
 by_cases hm:m=[]
 ·have hm0:(m==[])=true:=by rw[hm];rfl
  by_cases hc:n≤C.length
  ·have d4:decide ((n:Int)≤(C.length:Int))=true:=by rw[decide_eq_true_eq];omega
   have hkk:keyB m C n=[stkK (C.take n)]:=by unfold keyB;rw[if_pos hm,if_pos hc];rfl
   rw[if_neg (by rw[hkk];simp),hkk]at hK
   refine Go1.mk ?_;repeat' ((first|(with_reducible refine Go1.go ?_)|(refine And.intro ?_ ?_;(try simp only[sxO]at *);omega)|fail)<;>(try simp (maxSteps:=1000000) only [hm0,d1,d2,d4,g0,e0,e1,e2,e3,e5,bs_app,bs_size,uo,ul,us,bs_mk,bs_app,bs_ext,bs_size,bs_toList,bs_at,bs_cells,List.take_length,imp_ga,guard_pk,guard_pk2,↓hold_pre,awayP,runOps,regK,step1,newK,genR,appR,obl,buildR,Value.cells,closeK,keepH,outV,retK,ret1,retC,RetV,Option.getD,runD,stepD,afterK,undef,simprocAttr,sxB,↓sxD,sxE,sxTab]))
   refine ⟨fun k z=>∃i,k=n-i∧i≤n∧z=rkySt M (.ext (.slice none 0 0)) [(2,41,[.ext (.string (bs m)),.ext u])]  n i (stkK (C.take i)),
    ⟨n,rkySt M (.ext (.slice none 0 0)) [(2,41,[.ext (.string (bs m)),.ext u])]  n 0 (stkK (C.take 0)),le_sub ⟨rfl,rfl,rfl,rfl,rfl,trivial⟩ ⟨rfl,trivial⟩ rfl rfl rfl (keepLt_of rfl),⟨0,by omega,by omega,rfl⟩⟩,?_⟩
   rintro k z ⟨i,rfl,hi,rfl⟩
   by_cases hlt:i<n
   ·have y1:decide ((i:Int)<(n:Int))=true:=by rw[decide_eq_true_eq];omega
    have wi:IntKind.i64.wrap ((i:Int)+1)=((i+1:Nat):Int):=by rw[wrap_id (by omega) (by omega)];omega
    have y2:(0:Int)≤(i:Int):=by omega
    have y3:(i:Int)<(n:Int):=by omega
    have fs:=(hu.idx (P:=Tryz.prog) (T:=9) tk9 tz9 (by omega) (show i<C.length by omega)).1
    have fn:=hu.nn (show i<C.length by omega)
    have y4:(i:Int)<(C.length:Int):=by omega
    have hsn:stkK (C.take (i+1))=stkK (C.take i)++(C[i]++[10]):=by rw[List.take_succ_eq_append_getElem (by omega),stkK_snoc]
    have hcl:=hb3 _ (List.getElem_mem (show i<C.length by omega))
    have hjl:=joinB_len (C.take i) 1000000000000000 fun c hc=>Nat.le_of_lt (hb3 c (List.mem_of_mem_take hc))
    rw[List.length_take,Nat.min_eq_left (by omega)]at hjl
    have hsl2:(stkK (C.take i)).length≤100000000000000000:=by
     unfold stkK
     rw[List.length_append]
     have:i*(1000000000000000+1)≤16*(1000000000000000+1):=Nat.mul_le_mul_right _ (by omega)
     simp only[List.length_cons,List.length_nil];omega
    generalize C[i]=ci at *
    have g1:((((ci.length+[(10:UInt8)].length:Nat):Int))≤9223372036854775807)=True:=by simp;omega
    have g2:(((((stkK (C.take i)).length+(ci++[(10:UInt8)]).length:Nat):Int))≤9223372036854775807)=True:=by simp;omega
    refine Go1.mk ?_;repeat' ((first|(with_reducible refine Go1.go ?_)|(refine And.intro ?_ ?_;(try simp only[sxO]at *);omega)|fail)<;>(try simp (maxSteps:=1000000) only [rkySt,sbV,y1,y2,y3,wi,fs,fn,y4,g1,g2,e3,bs_app,bs_size,uo,ul,us,bs_mk,bs_app,bs_ext,bs_size,bs_toList,bs_at,bs_cells,List.take_length,imp_ga,guard_pk,guard_pk2,↓hold_pre,awayP,runOps,regK,step1,newK,genR,appR,obl,buildR,Value.cells,closeK,keepH,outV,retK,ret1,retC,RetV,Option.getD,runD,stepD,afterK,undef,simprocAttr,sxB,↓sxD,sxE,sxTab]))
    exact ⟨n-(i+1),rkySt M (.ext (.slice none 0 0)) [(2,41,[.ext (.string (bs m)),.ext u])]  n (i+1) (stkK (C.take (i+1))),by omega,le_sub ⟨rfl,by rw[hsn];rfl,rfl,rfl,rfl,trivial⟩ ⟨rfl,trivial⟩ rfl rfl rfl (keepLt_of rfl),i+1,rfl,by omega,rfl⟩
   ·obtain rfl:i=n:=by omega
    have y1:decide ((i:Int)<(i:Int))=false:=by simp
    refine Go1.mk ?_;repeat' ((first|(with_reducible refine Go1.go ?_)|(refine And.intro ?_ ?_;(try simp only[sxO]at *);omega)|fail)<;>(try simp (maxSteps:=1000000) only [rkySt,sbV,y1,e5,bs_app,bs_size,uo,ul,us,bs_mk,bs_app,bs_ext,bs_size,bs_toList,bs_at,bs_cells,List.take_length,imp_ga,guard_pk,guard_pk2,↓hold_pre,awayP,runOps,regK,step1,newK,genR,appR,obl,buildR,Value.cells,closeK,keepH,outV,retK,ret1,retC,RetV,Option.getD,runD,stepD,afterK,undef,simprocAttr,sxB,↓sxD,sxE,sxTab]))
    exact frz_strs [stkK (C.take i)] rfl hK
  ·have d4:decide ((n:Int)≤(C.length:Int))=false:=by rw[decide_eq_false_iff_not];omega
   have hkk:keyB m C n=[]:=by unfold keyB;rw[if_pos hm,if_neg hc];rfl
   rw[if_pos hkk]at hK
   refine Go1.mk ?_;repeat' ((first|(with_reducible refine Go1.go ?_)|(refine And.intro ?_ ?_;(try simp only[sxO]at *);omega)|fail)<;>(try simp (maxSteps:=1000000) only [hm0,d1,d2,d4,g0,e0,e1,e2,e3,e5,bs_app,bs_size,uo,ul,us,bs_mk,bs_app,bs_ext,bs_size,bs_toList,bs_at,bs_cells,List.take_length,imp_ga,guard_pk,guard_pk2,↓hold_pre,awayP,runOps,regK,step1,newK,genR,appR,obl,buildR,Value.cells,closeK,keepH,outV,retK,ret1,retC,RetV,Option.getD,runD,stepD,afterK,undef,simprocAttr,sxB,↓sxD,sxE,sxTab]))
   exact frz_strs [[101]] rfl hK
 ·have hm0:(m==[])=false:=by simpa using hm
  by_cases hc:n≤C.length
  ·have d4:decide ((n:Int)≤(C.length:Int))=true:=by rw[decide_eq_true_eq];omega
   have hkk:keyB m C n=[[109]++m,stkK (C.take n)]:=by unfold keyB;rw[if_neg hm,if_pos hc];rfl
   rw[if_neg (by rw[hkk];simp),hkk]at hK
   refine Go1.mk ?_;repeat' ((first|(with_reducible refine Go1.go ?_)|(refine And.intro ?_ ?_;(try simp only[sxO]at *);omega)|fail)<;>(try simp (maxSteps:=1000000) only [hm0,d1,d2,d4,g0,e0,e1,e2,e3,e5,bs_app,bs_size,uo,ul,us,bs_mk,bs_app,bs_ext,bs_size,bs_toList,bs_at,bs_cells,List.take_length,imp_ga,guard_pk,guard_pk2,↓hold_pre,awayP,runOps,regK,step1,newK,genR,appR,obl,buildR,Value.cells,closeK,keepH,outV,retK,ret1,retC,RetV,Option.getD,runD,stepD,afterK,undef,simprocAttr,sxB,↓sxD,sxE,sxTab]))
   refine ⟨fun k z=>∃i,k=n-i∧i≤n∧z=rkySt M (.slo 22 0 1 1) [(22,9,[.ext (.string (bs ([109]++m)))]),(2,41,[.ext (.string (bs m)),.ext u])]  n i (stkK (C.take i)),
    ⟨n,rkySt M (.slo 22 0 1 1) [(22,9,[.ext (.string (bs ([109]++m)))]),(2,41,[.ext (.string (bs m)),.ext u])]  n 0 (stkK (C.take 0)),le_sub ⟨rfl,rfl,rfl,rfl,rfl,trivial⟩ ⟨rfl,rfl,trivial⟩ rfl rfl rfl (keepLt_of rfl),⟨0,by omega,by omega,rfl⟩⟩,?_⟩
   rintro k z ⟨i,rfl,hi,rfl⟩
   by_cases hlt:i<n
   ·have y1:decide ((i:Int)<(n:Int))=true:=by rw[decide_eq_true_eq];omega
    have wi:IntKind.i64.wrap ((i:Int)+1)=((i+1:Nat):Int):=by rw[wrap_id (by omega) (by omega)];omega
    have y2:(0:Int)≤(i:Int):=by omega
    have y3:(i:Int)<(n:Int):=by omega
    have fs:=(hu.idx (P:=Tryz.prog) (T:=9) tk9 tz9 (by omega) (show i<C.length by omega)).1
    have fn:=hu.nn (show i<C.length by omega)
    have y4:(i:Int)<(C.length:Int):=by omega
    have hsn:stkK (C.take (i+1))=stkK (C.take i)++(C[i]++[10]):=by rw[List.take_succ_eq_append_getElem (by omega),stkK_snoc]
    have hcl:=hb3 _ (List.getElem_mem (show i<C.length by omega))
    have hjl:=joinB_len (C.take i) 1000000000000000 fun c hc=>Nat.le_of_lt (hb3 c (List.mem_of_mem_take hc))
    rw[List.length_take,Nat.min_eq_left (by omega)]at hjl
    have hsl2:(stkK (C.take i)).length≤100000000000000000:=by
     unfold stkK
     rw[List.length_append]
     have:i*(1000000000000000+1)≤16*(1000000000000000+1):=Nat.mul_le_mul_right _ (by omega)
     simp only[List.length_cons,List.length_nil];omega
    generalize C[i]=ci at *
    have g1:((((ci.length+[(10:UInt8)].length:Nat):Int))≤9223372036854775807)=True:=by simp;omega
    have g2:(((((stkK (C.take i)).length+(ci++[(10:UInt8)]).length:Nat):Int))≤9223372036854775807)=True:=by simp;omega
    refine Go1.mk ?_;repeat' ((first|(with_reducible refine Go1.go ?_)|(refine And.intro ?_ ?_;(try simp only[sxO]at *);omega)|fail)<;>(try simp (maxSteps:=1000000) only [rkySt,sbV,y1,y2,y3,wi,fs,fn,y4,g1,g2,e3,bs_app,bs_size,uo,ul,us,bs_mk,bs_app,bs_ext,bs_size,bs_toList,bs_at,bs_cells,List.take_length,imp_ga,guard_pk,guard_pk2,↓hold_pre,awayP,runOps,regK,step1,newK,genR,appR,obl,buildR,Value.cells,closeK,keepH,outV,retK,ret1,retC,RetV,Option.getD,runD,stepD,afterK,undef,simprocAttr,sxB,↓sxD,sxE,sxTab]))
    exact ⟨n-(i+1),rkySt M (.slo 22 0 1 1) [(22,9,[.ext (.string (bs ([109]++m)))]),(2,41,[.ext (.string (bs m)),.ext u])]  n (i+1) (stkK (C.take (i+1))),by omega,le_sub ⟨rfl,by rw[hsn];rfl,rfl,rfl,rfl,trivial⟩ ⟨rfl,rfl,trivial⟩ rfl rfl rfl (keepLt_of rfl),i+1,rfl,by omega,rfl⟩
   ·obtain rfl:i=n:=by omega
    have y1:decide ((i:Int)<(i:Int))=false:=by simp
    refine Go1.mk ?_;repeat' ((first|(with_reducible refine Go1.go ?_)|(refine And.intro ?_ ?_;(try simp only[sxO]at *);omega)|fail)<;>(try simp (maxSteps:=1000000) only [rkySt,sbV,y1,e5,bs_app,bs_size,uo,ul,us,bs_mk,bs_app,bs_ext,bs_size,bs_toList,bs_at,bs_cells,List.take_length,imp_ga,guard_pk,guard_pk2,↓hold_pre,awayP,runOps,regK,step1,newK,genR,appR,obl,buildR,Value.cells,closeK,keepH,outV,retK,ret1,retC,RetV,Option.getD,runD,stepD,afterK,undef,simprocAttr,sxB,↓sxD,sxE,sxTab]))
    exact frz_strs [[109]++m,stkK (C.take i)] rfl hK
  ·have d4:decide ((n:Int)≤(C.length:Int))=false:=by rw[decide_eq_false_iff_not];omega
   have hkk:keyB m C n=[[109]++m]:=by unfold keyB;rw[if_neg hm,if_neg hc];rfl
   rw[if_neg (by rw[hkk];simp),hkk]at hK
   refine Go1.mk ?_;repeat' ((first|(with_reducible refine Go1.go ?_)|(refine And.intro ?_ ?_;(try simp only[sxO]at *);omega)|fail)<;>(try simp (maxSteps:=1000000) only [hm0,d1,d2,d4,g0,e0,e1,e2,e3,e5,bs_app,bs_size,uo,ul,us,bs_mk,bs_app,bs_ext,bs_size,bs_toList,bs_at,bs_cells,List.take_length,imp_ga,guard_pk,guard_pk2,↓hold_pre,awayP,runOps,regK,step1,newK,genR,appR,obl,buildR,Value.cells,closeK,keepH,outV,retK,ret1,retC,RetV,Option.getD,runD,stepD,afterK,undef,simprocAttr,sxB,↓sxD,sxE,sxTab]))
   exact frz_strs [[109]++m] rfl hK
end
def famC(b:Nat)(Ls:List (List Value)):List AV:=Ls.mapIdx fun j l=>.slo (j+b) 0 l.length 1
def famB(b:Nat)(T:TypeId)(Ls:List (List Value)):Hp:=Ls.mapIdx fun j l=>(j+b,T,l.map .ext)
def famH(b:Nat)(T:TypeId)(Ls:List (List Value))(r:Hp):Hp:=famB b T Ls++r
def famX(b:Nat)(T:TypeId)(Ls:List (List Value))(i:Nat)(r:Hp):Hp:=killH (i+b) (famB b T Ls)++r
section
variable {b:Nat}{T:TypeId}{Ls:List (List Value)}{r h:Hp}{k i n:Nat}
theorem famB_cons(b:Nat)(T:TypeId)(l:List Value)(Ls:List (List Value)):famB b T (l :: Ls)=(b,T,l.map .ext) :: famB (b+1) T Ls:=by
 unfold famB
 rw[List.mapIdx_cons,Nat.zero_add]
 congr 2
 funext j l
 rw[Nat.add_assoc,Nat.add_comm 1 b]
theorem lkH_famB:∀(Ls:List (List Value)) (b k:Nat),lkH (famB b T Ls) k=if b≤k then (Ls[k-b]?).map fun l=>(T,l.map .ext) else none
 | [],b,k=>by simp[famB,lkH]
 | l :: Ls,b,k=>by
  rw[famB_cons]
  simp only[lkH]
  rw[lkH_famB Ls (b+1) k]
  by_cases e:b=k
  ·subst e;simp
  ·rw[if_neg e]
   by_cases h1:b+1≤k
   ·rw[if_pos h1,if_pos (by omega)]
    have:k-b=(k-(b+1))+1:=by omega
    rw[this,List.getElem?_cons_succ]
   ·rw[if_neg h1,if_neg (by omega)]
theorem lkH_fam(hk:k<b):lkH (famH b T Ls r) k=lkH r k:=by
 unfold famH
 rw[lkH_append,lkH_famB,if_neg (by omega)]
theorem lkH_famI(hi:i<Ls.length):lkH (famH b T Ls r) (i+b)=some (T,Ls[i].map .ext):=by
 unfold famH
 rw[lkH_append,lkH_famB,if_pos (by omega),Nat.add_sub_cancel,List.getElem?_eq_getElem hi];rfl
theorem killH_app(k:Nat):∀A B:Hp,killH k (A++B)=killH k A++killH k B
 | [],B=>rfl
 | (j,T,cs) :: A,B=>by
  simp only[List.cons_append,killH]
  split
  ·exact killH_app k A B
  ·rw[killH_app k A B];rfl
theorem killL_exts(k:Nat):∀vs:List Value,killL k (vs.map .ext)=vs.map .ext
 | []=>rfl
 | v :: r=>by simp only[List.map_cons,killL,AV.kill,killL_exts k r]
theorem killH_famB:∀(Ls:List (List Value)) (b:Nat),k<b→killH k (famB b T Ls)=famB b T Ls
 | [],b,h=>rfl
 | l :: Ls,b,h=>by
  rw[famB_cons]
  simp only[killH]
  rw[if_neg (by omega),killL_exts,killH_famB Ls (b+1) (by omega)]
theorem killH_fam(hk:k<b):killH k (famH b T Ls r)=famH b T Ls (killH k r):=by
 unfold famH
 rw[killH_app,killH_famB Ls b hk]
theorem killH_famI:killH (i+b) (famH b T Ls r)=famX b T Ls i (killH (i+b) r):=by
 unfold famH famX
 rw[killH_app]
theorem lkH_famXJ{j:Nat}(hj:j<Ls.length)(hne:j≠i):lkH (famX b T Ls i r) (j+b)=some (T,Ls[j].map .ext):=by
 unfold famX
 rw[lkH_append,lkH_killH,if_neg (by omega),lkH_famB,if_pos (by omega),Nat.add_sub_cancel,List.getElem?_eq_getElem hj]
 simp[killL_exts]
theorem hasK_app(k:Nat)(l m:List Nat):hasK k (l++m)=(hasK k l || hasK k m):=by
 induction l with
 | nil=>rfl
 | cons j l ih=>simp[hasK,ih,Bool.or_assoc]
theorem mentH_app:∀A B:Hp,mentH (A++B)=mentH A++mentH B
 | [],B=>rfl
 | (j,T,cs) :: A,B=>by simp only[List.cons_append,mentH,mentH_app A B,List.append_assoc]
theorem hasK_famB:∀(Ls:List (List Value)) (b:Nat),k<b→hasK k (mentH (famB b T Ls))=false
 | [],b,h=>rfl
 | l :: Ls,b,h=>by
  rw[famB_cons]
  simp only[mentH,mentL_ext,List.nil_append,hasK]
  rw[hasK_famB Ls (b+1) (by omega),Bool.or_false]
  exact beq_eq_false_iff_ne.2 (by omega)
theorem hasK_fam(hk:k<b):hasK k (mentH (famH b T Ls r))=hasK k (mentH r):=by
 unfold famH
 rw[mentH_app,hasK_app,hasK_famB Ls b hk,Bool.false_or]
theorem subH_app(ks:List Nat):∀A B:Hp,subH (A++B) ks=subH A ks++subH B ks
 | [],B=>rfl
 | (j,x) :: A,B=>by
  simp only[List.cons_append,subH]
  split
  ·rw[subH_app ks A B];rfl
  ·exact subH_app ks A B
theorem subH_famB(ks:List Nat):∀(Ls:List (List Value)) (b:Nat),(∀j,b≤j→hasK j ks=false)→subH (famB b T Ls) ks=[]
 | [],b,h=>rfl
 | l :: Ls,b,h=>by
  rw[famB_cons]
  simp only[subH,h b (Nat.le_refl _)]
  exact subH_famB ks Ls (b+1) fun j hj=>h j (by omega)
theorem ltB_has{ks:List Nat}(h:ltB b ks=true){j:Nat}(hj:b≤j):hasK j ks=false:=hasK_no.2 fun hm=>by
 have:=ltB_mem h j hm
 omega
theorem subH_fam{ks:List Nat}(h:ltB b ks=true):subH (famH b T Ls r) ks=subH r ks:=by
 unfold famH
 rw[subH_app,subH_famB ks Ls b fun j hj=>ltB_has h hj,List.nil_append]
theorem dropH_app(G:Hp):∀A B:Hp,dropH G (A++B)=dropH G A++dropH G B
 | [],B=>rfl
 | (j,x) :: A,B=>by
  simp only[List.cons_append,dropH]
  split
  ·exact dropH_app G A B
  ·rw[dropH_app G A B];rfl
theorem keysH_lk{H:Hp}:∀{j:Nat},(lkH H j).isSome=true→j∈keysH H:=fun {j} h=>by
 induction H with
 | nil=>simp[lkH]at h
 | cons x H ih=>
  obtain ⟨q,y⟩:=x
  simp only[lkH]at h
  simp only[keysH,List.mem_cons]
  split at h
  ·rename_i e;exact .inl e.symm
  ·exact .inr (ih h)
theorem dropH_famB(G:Hp):∀(Ls:List (List Value)) (b:Nat),(∀j,b≤j→lkH G j=none)→dropH G (famB b T Ls)=famB b T Ls
 | [],b,h=>rfl
 | l :: Ls,b,h=>by
  rw[famB_cons]
  simp only[dropH,h b (Nat.le_refl _)]
  rw[dropH_famB G Ls (b+1) fun j hj=>h j (by omega)];rfl
theorem dropH_fam{G:Hp}(h:ltB b (keysH G)=true):dropH G (famH b T Ls r)=famH b T Ls (dropH G r):=by
 unfold famH
 rw[dropH_app,dropH_famB G Ls b fun j hj=>by
  cases e:lkH G j with
  | none=>rfl
  | some x=>have:=ltB_mem h j (keysH_lk (by rw[e];rfl));omega]
theorem famC_len:(famC b Ls).length=Ls.length:=by unfold famC;simp
theorem famC_at(hi:i<Ls.length):(famC b Ls)[i]? = some (.slo (i+b) 0 Ls[i].length 1):=by
 unfold famC
 rw[List.getElem?_mapIdx,List.getElem?_eq_getElem hi];rfl
theorem famC_get?(b:Nat)(Ls:List (List Value))(i:Nat):(famC b Ls)[i]? = (Ls[i]?).map fun l=>.slo (i+b) 0 l.length 1:=by unfold famC;rw[List.getElem?_mapIdx]
theorem famC_ment:∀(Ls:List (List Value)) (b:Nat),k<b→hasK k (mentL (famC b Ls))=false:=fun Ls b h=>hasK_no.2 fun hm=>by
 obtain ⟨v,hv,hk⟩:=mentL_mem hm
 obtain ⟨q,hq,e⟩:=List.getElem_of_mem hv
 have:(famC b Ls)[q]? = some v:=by rw[List.getElem?_eq_getElem hq,e]
 rw[famC_get?]at this
 cases hl:Ls[q]? with
 | none=>rw[hl]at this;cases this
 | some l=>
  rw[hl]at this
  simp only[Option.map_some,Option.some.injEq]at this
  rw[←this]at hk
  simp[AV.ment]at hk
  omega
theorem subHp_app:∀{A B h:Hp},subHp A h→subHp B h→subHp (A++B) h
 | [],B,h,_,hb=>hb
 | (j,x) :: A,B,h,ha,hb=>⟨ha.1,subHp_app ha.2 hb⟩
theorem subHp_famB:∀(Ls:List (List Value)) (b:Nat),(∀i (hi:i<Ls.length),lkH h (i+b)=some (T,Ls[i].map .ext))→subHp (famB b T Ls) h
 | [],b,_=>trivial
 | l :: Ls,b,hl=>by
  rw[famB_cons]
  refine ⟨by have:=hl 0 (by simp);rwa[Nat.zero_add]at this,subHp_famB Ls (b+1) fun i hi=>?_⟩
  have:=hl (i+1) (by simpa using hi)
  rw[show i+(b+1)=i+1+b by omega]
  simpa using this
theorem subHp_fam(h1:∀i (hi:i<Ls.length),lkH h (i+b)=some (T,Ls[i].map .ext))(h2:subHp r h):subHp (famH b T Ls r) h:=subHp_app (subHp_famB Ls b h1) h2
end
mutual
def BorI(M0 M:Mem)(H:Hp):AV→Value→Prop
 | .ext v,u=>u=v
 | .slo k off n z,u=>FreshS M0 u∧∀T (cs:List Value),lkH H k=some (T,cs.map .ext)→off+n*z≤cs.length→SlM M z u n ((cs.drop off).take (n*z))
 | .own _ _,_=>True
 | .gd _ _,_=>True
 | .gown _ _ _,_=>True
 | .ag _ _,_=>True
 | .fn _ _,_=>True
 | .bm _ _,_=>True
 | .unk,_=>True
def BorIL(M0 M:Mem)(H:Hp):List AV→List Value→Prop
 | [],us=>us=[]
 | v :: l,us=>∃u r,us=u :: r∧BorI M0 M H v u∧BorIL M0 M H l r
end
def BorO(M0 M:Mem)(H:Hp):AV→Value→Prop
 | .ext v,u=>u=v
 | .slo k off n z,u=>FreshS M0 u∧∀T cs,lkH H k=some (T,cs)→off+n*z≤cs.length→∃vs,SlM M z u n vs∧BorIL M0 M H ((cs.drop off).take (n*z)) vs
 | .own _ _,_=>True
 | .gd _ _,_=>True
 | .gown _ _ _,_=>True
 | .ag _ _,_=>True
 | .fn _ _,_=>True
 | .bm _ _,_=>True
 | .unk,_=>True
theorem slo_SlMg{ρ:Rho}{M:Mem}{w:World}{k off n z:Nat}{u:Value}{T:TypeId}{cs:List AV}(hu:(AV.slo k off n z).is ρ u)(hl:off+n*z≤cs.length)(hr:∀b,ρ k=some b→∃arr,M b.b=some (.cells arr T (0,0))∧Row ρ w T cs b arr):∃vs,SlM M z u n vs∧isL ρ ((cs.drop off).take (n*z)) vs:=by
 have hlen0:((cs.drop off).take (n*z)).length=n*z:=by rw[List.length_take,List.length_drop];omega
 rcases hu with ⟨b,cap,hb,rfl,h1,h2⟩|⟨rfl,a,ha,rfl⟩
 ·obtain ⟨arr,h3,h4⟩:=hr b hb
  have hp:=h4.part hl
  have hlen:=(isL_length hp).trans hlen0
  refine ⟨_,⟨rfl,rfl,h1,hlen,?_⟩,hp⟩
  simp only[rowS]
  refine rowM_of hlen fun i v hi=>?_
  have hin:i<n*z:=by have:=(List.getElem?_eq_some_iff.1 hi).1;omega
  rw[List.getElem?_take_of_lt hin,List.getElem?_drop]at hi
  simp only[cellM,h3]
  simpa using hi
 ·have h0:((cs.drop off).take (0*z))=[]:=by simp
  rw[h0]
  refine ⟨[],⟨rfl,rfl,Nat.zero_le _,by simp,?_⟩,by simp[isL]⟩
  cases a with
  | none=>rfl
  | some a=>
   obtain ⟨b,off,sp⟩:=a
   cases sp with
   | none=>simp[rowS,rowM]
   | some x=>cases ha _ rfl
section
variable {ρ:Rho}{M0 M:Mem}{H:Hp}{w:World}
theorem slo_fresh{k off n z:Nat}{u:Value}(hu:(AV.slo k off n z).is ρ u)(h:∀b,ρ k=some b→M0 b.b=none):FreshS M0 u:=by
 rcases hu with ⟨b,cap,hb,e,h5,h6⟩|⟨e,a,ha,e2⟩
 ·refine .inr fun b' off n' c e'=>?_
  rw[e]at e'
  cases e'
  exact h b hb
 ·refine .inl ?_
  rw[e2];rfl
def HoldH(ρ:Rho)(M0 M:Mem)(H:Hp)(w:World):Prop:=∀k T cs b,lkH H k=some (T,cs)→ρ k=some b→(∃arr,M b.b=some (.cells arr T (0,0))∧Row ρ w T cs b arr)∧M0 b.b=none
def closedH(H:Hp):Prop:=∀k T cs j,lkH H k=some (T,cs)→j∈mentL cs→(lkH H j).isSome=true
theorem borI_is(hM:HoldH ρ M0 M H w):∀(v:AV) (u:Value),(∀j∈v.ment,(lkH H j).isSome=true)→v.is ρ u→BorI M0 M H v u:=fun v u hj h=>by
 cases v with
 | ext _=>exact h
 | slo k off n z=>
  obtain ⟨x,hx⟩:=Option.isSome_iff_exists.1 (hj k (by simp[AV.ment]))
  exact ⟨slo_fresh h fun b hb=>(hM k x.1 x.2 b hx hb).2,fun T cs hk hl=>slo_SlMo h (by simpa using hl) fun b hb=>(hM k T _ b hk hb).1⟩
 | _=>simp only[BorI]
theorem borIL_is(hM:HoldH ρ M0 M H w):∀(l:List AV) (us:List Value),(∀j∈mentL l,(lkH H j).isSome=true)→isL ρ l us→BorIL M0 M H l us
 | [],us,_,h=>by simpa [BorIL,isL] using h
 | v :: l,us,hj,h=>by
  obtain ⟨u,r,h0,h1,h2⟩:=h
  simp only[BorIL]
  exact ⟨u,r,h0,borI_is hM v u (fun j hm=>hj j (by simp only[mentL,List.mem_append];exact .inl hm)) h1,borIL_is hM l r (fun j hm=>hj j (by simp only[mentL,List.mem_append];exact .inr hm)) h2⟩
theorem mentL_part{l:List AV}{j i n:Nat}(h:j∈mentL ((l.drop i).take n)):j∈mentL l:=mentL_drop (mentL_take h)
theorem borO_is(hM:HoldH ρ M0 M H w)(hc:closedH H):∀(v:AV) (u:Value),(∀j∈v.ment,(lkH H j).isSome=true)→v.is ρ u→BorO M0 M H v u:=fun v u hj h=>by
 cases v with
 | ext _=>exact h
 | slo k off n z=>
  obtain ⟨x,hx⟩:=Option.isSome_iff_exists.1 (hj k (by simp[AV.ment]))
  refine ⟨slo_fresh h fun b hb=>(hM k x.1 x.2 b hx hb).2,fun T cs hk hl=>?_⟩
  obtain ⟨vs,h1,h2⟩:=slo_SlMg h hl fun b hb=>(hM k T _ b hk hb).1
  exact ⟨vs,h1,borIL_is hM _ _ (fun j hm=>hc k T cs j hk (mentL_part hm)) h2⟩
 | _=>simp only[BorO]
end
structure LLu (M:Mem) (U:Value) (us:List Value) (Ls:List (List Value)):Prop where
 out:SlM M 1 U Ls.length us
 len:us.length=Ls.length
 at_:∀i (h:i<Ls.length),SlM M 1 (us[i]'(by omega)) Ls[i].length Ls[i]
def LL(M:Mem)(U:Value)(Ls:List (List Value)):Prop:=∃us,LLu M U us Ls
theorem LLu.le{M M':Mem}{U:Value}{us:List Value}{Ls:List (List Value)}(h:LLu M U us Ls)(hM:Mem.le M M'):LLu M' U us Ls:=⟨h.out.le hM,h.len,fun i hi=>(h.at_ i hi).le hM⟩
theorem LL.le{M M':Mem}{U:Value}{Ls:List (List Value)}(h:LL M U Ls)(hM:Mem.le M M'):LL M' U Ls:=h.elim fun us hu=>⟨us,hu.le hM⟩
structure LLF (M0 M:Mem) (U:Value) (Ls:List (List Value)):Prop where
 all:∃us,LLu M U us Ls∧FreshS M0 U∧∀u∈us,FreshS M0 u
theorem LLF.ll{M0 M:Mem}{U:Value}{Ls:List (List Value)}(h:LLF M0 M U Ls):LL M U Ls:=h.all.elim fun us hu=>⟨us,hu.1⟩
theorem LLF.older{M0 M1 M:Mem}{U:Value}{Ls:List (List Value)}(h:LLF M1 M U Ls)(hM:Mem.le M0 M1):LLF M0 M U Ls:=by
 obtain ⟨us,h1,h2,h3⟩:=h.all
 exact ⟨us,h1,h2.le hM,fun u hu=>(h3 u hu).le hM⟩
theorem LLF.move{M' M'' M3:Mem}{U:Value}{Ls:List (List Value)}(h:LLF M' M'' U Ls)(h3:∀b,M' b=none→M3 b=M'' b):LL M3 U Ls:=by
 obtain ⟨us,h1,h2,h4⟩:=h.all
 exact ⟨us,h1.out.move h2 h3,h1.len,fun i hi=>(h1.at_ i hi).move (h4 _ (List.getElem_mem _)) h3⟩
theorem BorIL.get{M0 M:Mem}{H:Hp}:∀{l:List AV} {us:List Value},BorIL M0 M H l us→us.length=l.length∧∀i (h:i<us.length) v,l[i]? = some v→BorI M0 M H v us[i]
 | [],us,h=>by
  simp only[BorIL]at h
  subst h
  exact ⟨rfl,fun i h=>by simp at h⟩
 | v :: l,us,h=>by
  simp only[BorIL]at h
  obtain ⟨u,r,rfl,h1,h2⟩:=h
  obtain ⟨h3,h4⟩:=BorIL.get h2
  refine ⟨by simp[h3],fun i hi w hw=>?_⟩
  cases i with
  | zero=>simp at hw;subst hw;exact h1
  | succ i=>exact h4 i (by simpa using hi) w (by simpa using hw)
theorem BorO.fam{M0 M:Mem}{H:Hp}{k n b:Nat}{T0 T:TypeId}{u:Value}{Ls:List (List Value)}(h:BorO M0 M H (.slo k 0 n 1) u)(hk:lkH H k=some (T0,famC b Ls))(hn:n=Ls.length)(hb:∀i (hi:i<Ls.length),lkH H (i+b)=some (T,Ls[i].map .ext)):LLF M0 M u Ls:=by
 subst hn
 obtain ⟨h0,h1⟩:=h
 obtain ⟨vs,h2,h3⟩:=h1 T0 _ hk (by rw[famC_len];omega)
 rw[List.drop_zero,List.take_of_length_le (by rw[famC_len];omega)]at h3
 obtain ⟨h4,h5⟩:=h3.get
 rw[famC_len]at h4
 have hat:∀i (hi:i<Ls.length),FreshS M0 (vs[i]'(by omega))∧SlM M 1 (vs[i]'(by omega)) Ls[i].length Ls[i]:=fun i hi=>by
  obtain ⟨g1,g2⟩:=h5 i (by omega) _ (famC_at hi)
  have:=g2 T Ls[i] (hb i hi) (by omega)
  rw[List.drop_zero,List.take_of_length_le (by omega)]at this
  exact ⟨g1,this⟩
 refine ⟨vs,⟨h2,h4,fun i hi=>(hat i hi).2⟩,h0,fun v hv=>?_⟩
 obtain ⟨i,hi,rfl⟩:=List.getElem_of_mem hv
 exact (hat i (by omega)).1
theorem BorO.isL{α:Type}{M0 M:Mem}{H:Hp}{k n:Nat}{g:α→Value}{L:List α}{u:Value}{T:TypeId}(h:BorO M0 M H (.slo k 0 n 1) u)(hk:lkH H k=some (T,cE g L))(hn:n=L.length):IsL M g u L:=by
 subst hn
 obtain ⟨vs,h2,h3⟩:=h.2 T _ hk (by rw[cE_len];omega)
 rw[List.drop_zero,List.take_of_length_le (by rw[cE_len];omega)]at h3
 obtain ⟨h4,h5⟩:=h3.get
 rw[cE_len]at h4
 have:vs=L.map g:=List.ext_getElem (by simp[h4]) fun i h6 h7=>by
  have:=h5 i h6 (.ext (g (L[i]'(by omega)))) (by rw[cE_at g (by omega)])
  simp only[BorI]at this
  rw[this,List.getElem_map]
 rw[this]at h2
 exact h2
def FrzO(K:AV→Hp→Mem→Prop)(H:Hp)(v:AV)(H':Hp)(M':Mem):Prop:=K v H' M'∨∃t l1 l2 k n z F H2,v=putMid t l1 (.slo k 0 n z) l2∧H'=F++H2∧closedH F∧(lkH F k).isSome=true∧
   (∀j,(lkH F j).isSome=true→lkH H j=none∧lkH H2 j=none∧j∉mentL l1∧j∉mentL l2∧j∉mentH H2)∧∀u M'',Mem.le M' M''→BorO M' M'' F (.slo k 0 n z) u→K (putMidV t l1 (.ext u) l2) H2 M''
open Classical in
theorem CallS.frzO{P:Program}{f:FuncId}{args:List AV}{H:Hp}{M:Mem}{K:AV→Hp→Mem→Prop}(h:CallS P f args H M [] (FrzO K H)):CallS P f args H M [] K:=by
 intro ρ w us hh he
 refine (h ρ w us hh he).mono fun e w' hall=>?_
 obtain ⟨x,v,H',M',ρ',e1,hor,hl⟩:=hall
 rcases hor with hor|⟨t,l1,l2,k,n,z,F,H2,rfl,rfl,hc,hkF,hoff,hK⟩
 ·exact ⟨x,v,H',M',ρ',e1,hor,hl⟩
 obtain ⟨u,hu,hx⟩:=putMid_ok hl.is
 let B:Nat→Prop:=fun b=>∃j y,(lkH F j).isSome=true∧ρ' j=some y∧y.b=b
 let M'':Mem:=fun b=>if B b then w'.heap[b]? else M' b
 have hFl:∀j y,lkH F j=some y→lkH (F++H2) j=some y:=fun j y hj=>by rw[lkH_append,hj]
 have h2l:∀j y,lkH H2 j=some y→lkH F j=none∧lkH (F++H2) j=some y:=fun j y hj=>by
  cases e:lkH F j with
  | none=>exact ⟨rfl,by rw[lkH_append,e];exact hj⟩
  | some z=>have:=(hoff j (by rw[e];rfl)).2.1;rw[hj]at this;cases this
 have hMB:∀b,B b→M' b=none:=fun b ⟨j,y,hj,hy,e⟩=>by
  obtain ⟨q,hq⟩:=Option.isSome_iff_exists.1 hj
  rw[←e];exact (hl.heap.hp j q.1 q.2 y (hFl j q hq) hy).2
 have hle:Mem.le M' M'':=fun b o hb=>by
  by_cases hB:B b
  ·rw[hMB b hB]at hb;cases hb
  ·simp only[M'',if_neg hB];exact hb
 have hbor:BorO M' M'' F (.slo k 0 n z) u:=borO_is (w:=w') (ρ:=ρ') (fun j T cs b hj hb=>by
  obtain ⟨⟨arr,h1⟩,h2⟩:=hl.heap.hp j T cs b (hFl j _ hj) hb
  have hB:B b.b:=⟨j,b,by rw[hj];rfl,hb,rfl⟩
  exact ⟨⟨arr,by simp only[M'',if_pos hB];exact h1.there,h1⟩,h2⟩) hc _ u (fun j hj=>by
   simp[AV.ment]at hj;rw[hj];exact hkF) hu
 let ρ2:Rho:=fun j=>if (lkH F j).isSome=true then ρ j else ρ' j
 have hρ:∀j,lkH F j=none→ρ' j=ρ2 j:=fun j hj=>by simp only[ρ2,hj];simp
 have hkv:∀j,(lkH F j).isSome=true→j∉(putMidV t l1 (.ext u) l2).ment:=fun j hj hm=>by
  obtain ⟨_,_,o1,o2,_⟩:=hoff j hj
  have:=putMidV_ment hm .unk
  cases t with
  | none=>simp[putMid,AV.ment]at this
  | some t=>
   simp only[putMid,AV.ment,mentL_append,mentL,List.mem_append,List.not_mem_nil,false_or]at this
   rcases this with h|h
   ·exact o1 h
   ·exact o2 h
 have hkH:∀j T' ds,lkH H2 j=some (T',ds)→∀q∈mentL ds,lkH F q=none:=fun j T' ds hj q hq=>by
  cases e:lkH F q with
  | none=>rfl
  | some y=>exact absurd (mentH_lk hj (.inr hq)) (hoff q (by rw[e];rfl)).2.2.2.2
 have hnB:∀j y,(lkH H2 j).isSome=true→ρ' j=some y→¬B y.b:=fun j y hj hy ⟨q,y',hq,hy',e⟩=>by
  obtain ⟨a,ha⟩:=Option.isSome_iff_exists.1 hj
  obtain ⟨c,hcc⟩:=Option.isSome_iff_exists.1 hq
  obtain ⟨h3,h4⟩:=h2l j a ha
  have:=hl.heap.inj q j y' y (by rw[hFl q c hcc];rfl) (by rw[h4];rfl) hy' hy e
  subst this
  rw[hcc]at h3;cases h3
 refine ⟨x,_,H2,M'',ρ2,e1,hK u M'' hle hbor,?_⟩
 refine {is:=is_agree (fun j hj=>hρ j (by
  cases e:lkH F j with
  | none=>rfl
  | some y=>exact absurd hj (hkv j (by rw[e];rfl)))) hx,heap:=⟨fun j T' ds b hj hb=>?_,fun j T' ds hj hb=>?_,fun j j' b b' hj hj' hb hb' e=>?_,fun b o hb=>?_⟩,keep:=fun j hj=>?_,same:=fun j hj hm=>?_,ment:=fun j hj=>?_,fresh:=fun j b hj hb=>?_,os:=hl.os,tape:=hl.tape,output:=hl.output,size:=hl.size,block:=hl.block,le:=hl.le.trans hle,mem:=fun b hb=>?_}
 ·obtain ⟨h3,h4⟩:=h2l j _ hj
  rw[←hρ j h3]at hb
  obtain ⟨⟨arr,f1⟩,f2⟩:=hl.heap.hp j T' ds b h4 hb
  refine ⟨⟨arr,f1.there,f1.size,f1.le,fun i v hv=>is_agree (fun q hq=>hρ q (hkH j T' ds hj q (mentL_get hv hq))) (f1.is i v hv)⟩,?_⟩
  simp only[M'',if_neg (hnB j b (by rw[hj];rfl) hb)];exact f2
 ·obtain ⟨h3,h4⟩:=h2l j _ hj
  rw[←hρ j h3]at hb
  exact hl.heap.no j T' ds h4 hb
 ·obtain ⟨y,hy⟩:=Option.isSome_iff_exists.1 hj
  obtain ⟨y',hy'⟩:=Option.isSome_iff_exists.1 hj'
  obtain ⟨h3,h4⟩:=h2l j _ hy
  obtain ⟨h5,h6⟩:=h2l j' _ hy'
  rw[←hρ j h3]at hb
  rw[←hρ j' h5]at hb'
  exact hl.heap.inj j j' b b' (by rw[h4];rfl) (by rw[h6];rfl) hb hb' e
 ·by_cases hB:B b
  ·simp only[M'',if_pos hB]at hb;exact hb
  ·simp only[M'',if_neg hB]at hb;exact hl.heap.sub b o hb
 ·have h3:=hl.keep j hj
  rw[lkH_append]at h3
  cases e:lkH F j with
  | none=>rw[e]at h3;exact h3
  | some y=>have:=(hoff j (by rw[e];rfl)).1;rw[this]at hj;cases hj
 ·by_cases e:(lkH F j).isSome=true
  ·simp only[ρ2,if_pos e]
  ·have e2:lkH F j=none:=by cases h:lkH F j with
    | none=>rfl
    | some y=>rw[h]at e;exact absurd rfl e
   rw[←hρ j e2]
   refine hl.same j ?_ hm
   rcases hj with hj|hj
   ·exact .inl hj
   ·exact .inr (by rw[lkH_append,e2];exact hj)
 ·by_cases e:(lkH F j).isSome=true
  ·exact ⟨hkv j e,fun i T' ds hi hm=>by have:=hkH i T' ds hi j hm;rw[this]at e;cases e⟩
  ·have e2:lkH F j=none:=by cases h:lkH F j with
    | none=>rfl
    | some y=>rw[h]at e;exact absurd rfl e
   obtain ⟨m1,m2⟩:=hl.ment j (by rw[lkH_append,e2];exact hj)
   exact ⟨fun hm=>m1 (putMidV_ment hm _),fun i T' ds hi=>m2 i T' ds (h2l i _ hi).2⟩
 ·obtain ⟨y,hy⟩:=Option.isSome_iff_exists.1 hj
  obtain ⟨h3,h4⟩:=h2l j _ hy
  rw[←hρ j h3]at hb
  exact hl.fresh j b (by rw[h4];rfl) hb
 ·by_cases hB:B b
  ·obtain ⟨j,y,hj,hy,rfl⟩:=hB
   obtain ⟨q,hq⟩:=Option.isSome_iff_exists.1 hj
   rcases hl.fresh j y (by rw[hFl j q hq];rfl) hy with h6|⟨j',q',h6,h7,h8⟩
   ·exact .inr h6
   ·exfalso
    have hj':=hl.keep j' h6
    have hj2:ρ' j'=some q':=by rw[hl.same j' (.inl h6) (by simp)];exact h7
    have:=hl.heap.inj j' j q' y hj' (by rw[hFl j q hq];rfl) hj2 hy h8
    subst this
    rw[(hoff j' hj).1]at h6;cases h6
  ·simp only[M'',if_neg hB]at hb
   exact hl.mem b hb
end Go.Proofs.YtoblkpomikokhaaGreat.Sx
