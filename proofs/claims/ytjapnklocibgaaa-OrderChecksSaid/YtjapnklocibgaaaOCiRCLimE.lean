/- Part 26 of the texts of this claim: a symbolic executor and contracts of functions. -/
import Derived.Test.YtjapnklocibgaaaOCiRCLimD
namespace Go.Proofs.Ytjapnklocibgaaa.Sx
open Go Go.RowKit
set_option linter.unusedVariables false
set_option linter.unusedSimpArgs false
set_option maxRecDepth 100000
set_option maxHeartbeats 8000000
attribute [local congr] fin_congr finG_congr stepG_congr step1_congr runOps_congr brv_congr obl_congr condK_congr LoopK_congr seqK_congr CutK_congr vc_congr DrawK_congr regK_congr CallK_congr AskK_congr newK_congr retC_congr ret1_congr retK_congr outV_congr closeK_congr genR_congr appR_congr finD_congr finGD_congr stepGD_congr stepD_congr CallK0_congr runD_congr okR_congr CallS_congr vcX_congr
attribute [local congr] Stop_congr
section
variable {M:Mem}{K:AV→Hp→Mem→Prop}
theorem clone_ok(u:Value)(l:List Nat)(hu:IsL M u32V u l)(hb:l.length<1000000000)(hK:∀w M',Mem.le M M'→IsL M' u32V w l→FreshS M w→K (.ext w) [] M'):CallS Try.prog 81 [.ext u] [] M [] K:=by
 refine CallS.frzF ?_
 refine inlS (cs:=[]) Try.mixed Try.func81 rfl (by kernel_rfl) 0 rfl rfl ?_
 simp only[Try.f81]
 cases hn:nilS u with
 | true=>
  have hl:l=[]:=by
   rcases l with _|⟨a,r⟩
   ·rfl
   ·rw[hu.nn (i:=0) (by simp)]at hn;cases hn
  subst hl
  refine Go1.mk ?_;repeat' ((first|(with_reducible refine Go1.go ?_)|(refine And.intro ?_ ?_;(try simp only[sxO]at *);omega)|fail)<;>(try simp (maxSteps:=1000000) only [hn,hu.one,hu.sl,cE_ment,hasK_nil,cE_kill,cE_len,u32_one,u32_app1,u32_set,Nat.mul_one,↓hold_pre,awayP,runOps,regK,step1,newK,genR,appR,obl,buildR,Value.cells,closeK,keepH,outV,retK,ret1,retC,RetV,Option.getD,runD,stepD,afterK,undef,simprocAttr,sxB,↓sxD,sxE,sxTab]))
  exact .inl (hK _ _ (Mem.le.refl _) (isL_nil _ _ _) (freshS_nil _ _))
 | false=>
  have hrow:=hu.row
  have h1:List.map AV.ext (List.map u32V l)=cE u32V l:=rfl
  refine Go1.mk ?_;repeat' ((first|(with_reducible refine Go1.go ?_)|(refine And.intro ?_ ?_;(try simp only[sxO]at *);omega)|fail)<;>(try simp (maxSteps:=1000000) only [hn,hu.one,hu.sl,hu.len,hrow,h1,cE_ment,hasK_nil,cE_kill,cE_len,u32_one,u32_app1,u32_set,Nat.mul_one,↓hold_pre,awayP,runOps,regK,step1,newK,genR,appR,obl,buildR,Value.cells,closeK,keepH,outV,retK,ret1,retC,RetV,Option.getD,runD,stepD,afterK,undef,simprocAttr,sxB,↓sxD,sxE,sxTab]))
  exact FrzF.one (l.map u32V) rfl (by simp) fun w M' h1 h2 h3=>hK w M' h1 (by unfold IsL;exact h2) h3
def gsSt(M:Mem)(u v:Value)(n q r:Nat):St:={env:=[(8,.ext (.int .u64 (r:Int))),(7,.ext (.int .u64 (q:Int))),(5,.ext (.int .i64 (n:Int))),(0,.ext u),(1,.ext v)],hp:=[],M:=M,kb:=0,fx:=[]}
theorem guess_ok(u v:Value)(n:Nat)(C B:List Nat)(hu:IsL M u32V u C)(hv:IsL M u32V v B)(hn:2≤n)(hn2:n<1000000000)(hC:C.length=n+1)(hB:B.length=n)(hoC:okN C)(hoB:okN B)(htop:2147483648≤B[n-1]'(by omega))(hlt:valN C<4294967296*valN B)
  (hK:∀q,q<4294967296→valN C / valN B≤q→q≤valN C / valN B+1→K (.ext (.int .u64 ((q:Nat):Int))) [] M):CallS Try.prog 87 [.ext u,.ext v] [] M [] K:=by
 refine inlS (cs:=[]) Try.mixed Try.func87 rfl (by kernel_rfl) 0 rfl rfl ?_
 simp only[Try.f87]
 obtain ⟨m,rfl⟩:∃m,n=m+2:=⟨n-2,by omega⟩
 have i1:=hu.idx (P:=Try.prog) (T:=55) tk55 tz55 (by omega) (show m+2<C.length by omega)
 have i2:=hu.idx (P:=Try.prog) (T:=55) tk55 tz55 (by omega) (show m+1<C.length by omega)
 have i3:=hu.idx (P:=Try.prog) (T:=55) tk55 tz55 (by omega) (show m<C.length by omega)
 have j1:=hv.idx (P:=Try.prog) (T:=55) tk55 tz55 (by omega) (show m+1<B.length by omega)
 have j2:=hv.idx (P:=Try.prog) (T:=55) tk55 tz55 (by omega) (show m<B.length by omega)
 have hcC:valN C=(C[m+2]*4294967296+C[m+1])*(wN m*4294967296)+C[m]*wN m+valN (C.take m):=by
  rw[valN_cut C (show m≤C.length by omega),valN_drop (show m<C.length by omega),valN_drop (show m+1<C.length by omega),valN_drop (show m+2<C.length by omega),List.drop_of_length_le (show C.length≤m+2+1 by omega)]
  simp only[valN]
  grind
 have hcB:valN B=(B[m+1]*4294967296+B[m])*wN m+valN (B.take m):=by
  rw[valN_cut B (show m≤B.length by omega),valN_drop (show m<B.length by omega),valN_drop (show m+1<B.length by omega),List.drop_of_length_le (show B.length≤m+1+1 by omega)]
  simp only[valN]
  grind
 have hrC:valN (C.take m)<wN m:=by
  have:=valN_lt (okN_take hoC m)
  rwa[List.length_take,Nat.min_eq_left (by omega)]at this
 have hrB:valN (B.take m)<wN m:=by
  have:=valN_lt (okN_take hoB m)
  rwa[List.length_take,Nat.min_eq_left (by omega)]at this
 have htop:2147483648≤B[m+1]:=htop
 have b1:=okN_at hoC (show m+2<C.length by omega)
 have b2:=okN_at hoC (show m+1<C.length by omega)
 have b3:=okN_at hoC (show m<C.length by omega)
 have b4:=okN_at hoB (show m+1<B.length by omega)
 have b5:=okN_at hoB (show m<B.length by omega)
 generalize hc0:C[m+2]=c0 at *
 generalize hc1:C[m+1]=c1 at *
 generalize hc2:C[m]=c2 at *
 generalize hv1:B[m+1]=v1 at *
 generalize hv2:B[m]=v2 at *
 generalize valN (C.take m)=cr at *
 generalize valN (B.take m)=vr at *
 have hpp:=wN_pos m
 generalize wN m=p at *
 have hcC:valN C=((c0*4294967296+c1)*4294967296+c2)*p+cr:=by rw[hcC];grind
 clear hc0 hc1 hc2 hv1 hv2 hoC hoB
 generalize valN C=CC at *
 generalize valN B=V at *
 have w1:IntKind.i64.wrap (((m+2:Nat):Int)-1)=((m+1:Nat):Int):=by rw[wrap_id (by omega) (by omega)];omega
 have w2:IntKind.i64.wrap (((m+2:Nat):Int)-2)=((m:Nat):Int):=by rw[wrap_id (by omega) (by omega)];omega
 have w3:=shl32 b1
 have w4:=or32 b1 b2
 have u0:IntKind.u64.wrap (c0:Int)=(c0:Int):=wrap64_id (by omega)
 have u1:IntKind.u64.wrap (c1:Int)=(c1:Int):=wrap64_id (by omega)
 have u2:IntKind.u64.wrap (c2:Int)=(c2:Int):=wrap64_id (by omega)
 have u3:IntKind.u64.wrap (v1:Int)=(v1:Int):=wrap64_id (by omega)
 have u4:IntKind.u64.wrap (v2:Int)=(v2:Int):=wrap64_id (by omega)
 have ht:c0≤v1:=by
  rcases Nat.lt_or_ge v1 c0 with h|h
  ·exfalso
   have a1:(v1*4294967296+v2+1)*p*4294967296≤(c0*4294967296)*4294967296*p:=by
    have:v1*4294967296+v2+1≤c0*4294967296:=by omega
    have:=Nat.mul_le_mul_right (p*4294967296) this
    grind
   grind
  ·exact h
 obtain ⟨top,htp⟩:∃top,c0*4294967296+c1=top:=⟨_,rfl⟩
 rw[htp]at w4 hcC
 have ht2:top≤v1*4294967296+4294967295:=by omega
 have w5:=quo64 (s:=top) (d:=v1) (by omega)
 have w6:=rem64 top v1
 have n1:((v1:Int)=0)=False:=by simp;omega
 refine Go1.mk ?_;repeat' ((first|(with_reducible refine Go1.go ?_)|((with_reducible refine isDraw [some 11,some 12,some 13,some 14,some 15,some 16,some 17,some 18,some 19,some 20,some 21,some 22,some 23,some 6] (by decide) ?_);refine draw_rule [(0,[]),(1,[]),(2,[]),(3,[]),(4,[]),(5,[]),(6,[3,4]),(7,[3,4]),(8,[3,4]),(9,[3,4]),(10,[3,4]),(11,[3,4]),(12,[]),(13,[])] [[],[],[0,1],[0,1,2],[0,1,2,3],[0,1,2,3,4],[],[],[7],[6,7,8],[6,7,8,9],[6,7,8,9,10],[0,1,2,3,4,5,6,7,8,9,10,11],[0,1,2,3,4,5,6,7,8,9,10,11,12]] [11,12,13,14,15,16,17,18,19,20,21,22] [] (by kernel_rfl) (by kernel_rfl) (by kernel_rfl) (by kernel_rfl) (by exact trivial) ?_)|((with_reducible refine isDraw [some 24,some 25,some 26,some 27,some 28,some 29,some 30,some 31,some 32,some 33,some 34,some 35,some 36,some 37,some 38,some 39,some 7,some 8] (by decide) ?_);refine draw_rule [(0,[]),(1,[]),(2,[]),(3,[]),(4,[]),(5,[]),(6,[]),(7,[]),(8,[5,6]),(9,[5,6]),(10,[5,6]),(11,[5,6]),(12,[5,6]),(13,[5,6]),(14,[5,6]),(15,[5,6]),(16,[13,14]),(17,[])] [[],[],[],[2],[1,2,3],[1,2,3,4],[1,2,3,4,5],[0,1,2,3,4,5,6],[],[],[],[10],[9,10,11],[9,10,11,12],[9,10,11,12,13],[8,9,10,11,12,13,14],[0,1,2,3,4,5,6,7],[0,1,2,3,4,5,6,7,8,9,10,11,12,13,14,15,16]] [24,25,26,27,28,29,30,31,32,33,34,35,36,37,38,39,7] [] (by kernel_rfl) (by kernel_rfl) (by kernel_rfl) (by kernel_rfl) (by exact trivial) ?_)|((with_reducible refine isDraw [some 40,some 41,some 42,some 43,some 44,some 45,some 46,some 47,some 48,some 49,some 50,some 51,some 52,some 53,some 54,some 55,some 56,some 57,some 58,some 59,some 60,some 61] (by decide) ?_);refine draw_rule [(0,[]),(1,[]),(2,[]),(3,[]),(4,[]),(5,[]),(6,[]),(7,[]),(8,[]),(9,[]),(10,[]),(11,[8,9]),(12,[8,9]),(13,[8,9]),(14,[8,9]),(15,[8,9]),(16,[8,9]),(17,[8,9]),(18,[8,9]),(19,[8,9]),(20,[]),(21,[])] [[],[0],[0,1],[0,1,2],[0,1,2],[0,1,2],[0,1,2,5],[0,1,2,4,5,6],[0,1,2,4,5,6,7],[0,1,2,4,5,6,7,8],[0,1,2,3,4,5,6,7,8,9],[0,1,2],[0,1,2,11],[0,1,2],[0,1,2],[0,1,2,14],[0,1,2,13,14,15],[0,1,2,13,14,15,16],[0,1,2,13,14,15,16,17],[0,1,2,11,12,13,14,15,16,17,18],[0,1,2,3,4,5,6,7,8,9,10,11,12,13,14,15,16,17,18,19],[0,1,2,3,4,5,6,7,8,9,10,11,12,13,14,15,16,17,18,19,20]] [43,44,45,46,47,48,49,50,51,52,53,54,55,56,57,58,59] [] (by kernel_rfl) (by kernel_rfl) (by kernel_rfl) (by kernel_rfl) (by exact trivial) ?_)|(refine And.intro ?_ ?_;(try simp only[sxO]at *);omega)|fail)<;>(try simp (maxSteps:=1000000) only [cE_ment,hasK_nil,cE_kill,cE_len,u32_one,u32_app1,u32_set,Nat.mul_one,u32V,hu.one,hv.one,hu.len,hv.len,hv.sl,hB,i1,i2,i3,j1,j2,w1,w2,w3,w4,w5,w6,u0,u1,u2,u3,u4,n1,↓hold_pre,awayP,runOps,regK,step1,newK,genR,appR,obl,buildR,Value.cells,closeK,keepH,outV,retK,ret1,retC,RetV,Option.getD,runD,stepD,afterK,undef,simprocAttr,sxB,↓sxD,sxE,sxTab]))
 clear w1 w4 w5 w6 u0 u1 n1 i1 i2
 have w1:IntKind.i64.wrap (((m+2:Nat):Int)-1)=((m+1:Nat):Int):=by rw[wrap_id (by omega) (by omega)];omega
 refine ⟨fun d z=>∃q r,q=d∧CC / V≤q∧q*v1+r=top∧r<4294967296∧z=gsSt M u v (m+2) q r,
  ⟨top / v1,gsSt M u v (m+2) (top / v1) (top % v1),le_sub ⟨rfl,rfl,rfl,rfl,rfl,trivial⟩ trivial rfl rfl rfl (keepLt0 _),⟨_,_,rfl,guess_init hcB hcC hrC b3 (by omega),by rw[Nat.mul_comm];exact Nat.div_add_mod top v1,Nat.lt_trans (Nat.mod_lt _ (by omega)) b4,rfl⟩⟩,?_⟩
 rintro d z ⟨q,r,rfl,hqd,hqr,hr,rfl⟩
 have body:∀(h:4294967296≤q∨r*4294967296+c2<q*v2),1≤q∧CC / V≤q-1∧(q-1)*v1+(r+v1)=top∧IntKind.u64.wrap ((q:Int)-1)=((q-1:Nat):Int)∧IntKind.u64.wrap ((r:Int)+(v1:Int))=((r+v1:Nat):Int)∧(4294967296≤r+v1→q-1<4294967296∧q-1≤CC / V+1):=fun h=>by
  obtain ⟨h1,h2⟩:=guess_dec hcB hcC hrC hlt hqr hqd h
  have hq2:q≤top / v1:=by rw[Nat.le_div_iff_mul_le (by omega)];omega
  have hq3:q≤top:=Nat.le_trans hq2 (Nat.div_le_self _ _)
  have h6:1≤q:=Nat.le_trans (Nat.le_add_left 1 _) h1
  have h5:CC / V≤q-1:=Nat.le_sub_one_of_lt h1
  refine ⟨h6,h5,h2,by rw[wrap64_i (by omega) (by omega)];omega,by rw[←Int.natCast_add,wrap64_id (by omega)],fun hb=>?_⟩
  obtain ⟨h3,h4⟩:=guess_brk (u2:=c2) h2 ht2 b5 (by omega) hb
  exact ⟨h3,guess_exit hcB hcC hrB htop h2 h3 h4⟩
 by_cases hqW:4294967296≤q
 ·have d1:decide ((4294967296:Int)≤(q:Int))=true:=by simp;omega
  obtain ⟨h1,h2,h3,w7,w8,h4⟩:=body (.inl hqW)
  by_cases hb:4294967296≤r+v1
  ·have d2:decide ((4294967296:Int)≤((r+v1:Nat):Int))=true:=by simp;omega
   refine Go1.mk ?_;repeat' ((first|(with_reducible refine Go1.go ?_)|((with_reducible refine isDraw [some 11,some 12,some 13,some 14,some 15,some 16,some 17,some 18,some 19,some 20,some 21,some 22,some 23,some 6] (by decide) ?_);refine draw_rule [(0,[]),(1,[]),(2,[]),(3,[]),(4,[]),(5,[]),(6,[3,4]),(7,[3,4]),(8,[3,4]),(9,[3,4]),(10,[3,4]),(11,[3,4]),(12,[]),(13,[])] [[],[],[0,1],[0,1,2],[0,1,2,3],[0,1,2,3,4],[],[],[7],[6,7,8],[6,7,8,9],[6,7,8,9,10],[0,1,2,3,4,5,6,7,8,9,10,11],[0,1,2,3,4,5,6,7,8,9,10,11,12]] [11,12,13,14,15,16,17,18,19,20,21,22] [] (by kernel_rfl) (by kernel_rfl) (by kernel_rfl) (by kernel_rfl) (by exact trivial) ?_)|((with_reducible refine isDraw [some 24,some 25,some 26,some 27,some 28,some 29,some 30,some 31,some 32,some 33,some 34,some 35,some 36,some 37,some 38,some 39,some 7,some 8] (by decide) ?_);refine draw_rule [(0,[]),(1,[]),(2,[]),(3,[]),(4,[]),(5,[]),(6,[]),(7,[]),(8,[5,6]),(9,[5,6]),(10,[5,6]),(11,[5,6]),(12,[5,6]),(13,[5,6]),(14,[5,6]),(15,[5,6]),(16,[13,14]),(17,[])] [[],[],[],[2],[1,2,3],[1,2,3,4],[1,2,3,4,5],[0,1,2,3,4,5,6],[],[],[],[10],[9,10,11],[9,10,11,12],[9,10,11,12,13],[8,9,10,11,12,13,14],[0,1,2,3,4,5,6,7],[0,1,2,3,4,5,6,7,8,9,10,11,12,13,14,15,16]] [24,25,26,27,28,29,30,31,32,33,34,35,36,37,38,39,7] [] (by kernel_rfl) (by kernel_rfl) (by kernel_rfl) (by kernel_rfl) (by exact trivial) ?_)|((with_reducible refine isDraw [some 40,some 41,some 42,some 43,some 44,some 45,some 46,some 47,some 48,some 49,some 50,some 51,some 52,some 53,some 54,some 55,some 56,some 57,some 58,some 59,some 60,some 61] (by decide) ?_);refine draw_rule [(0,[]),(1,[]),(2,[]),(3,[]),(4,[]),(5,[]),(6,[]),(7,[]),(8,[]),(9,[]),(10,[]),(11,[8,9]),(12,[8,9]),(13,[8,9]),(14,[8,9]),(15,[8,9]),(16,[8,9]),(17,[8,9]),(18,[8,9]),(19,[8,9]),(20,[]),(21,[])] [[],[0],[0,1],[0,1,2],[0,1,2],[0,1,2],[0,1,2,5],[0,1,2,4,5,6],[0,1,2,4,5,6,7],[0,1,2,4,5,6,7,8],[0,1,2,3,4,5,6,7,8,9],[0,1,2],[0,1,2,11],[0,1,2],[0,1,2],[0,1,2,14],[0,1,2,13,14,15],[0,1,2,13,14,15,16],[0,1,2,13,14,15,16,17],[0,1,2,11,12,13,14,15,16,17,18],[0,1,2,3,4,5,6,7,8,9,10,11,12,13,14,15,16,17,18,19],[0,1,2,3,4,5,6,7,8,9,10,11,12,13,14,15,16,17,18,19,20]] [43,44,45,46,47,48,49,50,51,52,53,54,55,56,57,58,59] [] (by kernel_rfl) (by kernel_rfl) (by kernel_rfl) (by kernel_rfl) (by exact trivial) ?_)|(refine And.intro ?_ ?_;(try simp only[sxO]at *);omega)|fail)<;>(try simp (maxSteps:=1000000) only [cE_ment,hasK_nil,cE_kill,cE_len,u32_one,u32_app1,u32_set,Nat.mul_one,gsSt,u32V,hu.one,hv.one,hu.len,hv.len,hv.sl,hB,j1,j2,i3,d1,d2,w1,w2,w7,w8,u2,u3,u4,↓hold_pre,awayP,runOps,regK,step1,newK,genR,appR,obl,buildR,Value.cells,closeK,keepH,outV,retK,ret1,retC,RetV,Option.getD,runD,stepD,afterK,undef,simprocAttr,sxB,↓sxD,sxE,sxTab]))
   exact hK _ (h4 hb).1 h2 (h4 hb).2
  ·have d2:decide ((4294967296:Int)≤((r+v1:Nat):Int))=false:=by simp;omega
   refine Go1.mk ?_;repeat' ((first|(with_reducible refine Go1.go ?_)|((with_reducible refine isDraw [some 11,some 12,some 13,some 14,some 15,some 16,some 17,some 18,some 19,some 20,some 21,some 22,some 23,some 6] (by decide) ?_);refine draw_rule [(0,[]),(1,[]),(2,[]),(3,[]),(4,[]),(5,[]),(6,[3,4]),(7,[3,4]),(8,[3,4]),(9,[3,4]),(10,[3,4]),(11,[3,4]),(12,[]),(13,[])] [[],[],[0,1],[0,1,2],[0,1,2,3],[0,1,2,3,4],[],[],[7],[6,7,8],[6,7,8,9],[6,7,8,9,10],[0,1,2,3,4,5,6,7,8,9,10,11],[0,1,2,3,4,5,6,7,8,9,10,11,12]] [11,12,13,14,15,16,17,18,19,20,21,22] [] (by kernel_rfl) (by kernel_rfl) (by kernel_rfl) (by kernel_rfl) (by exact trivial) ?_)|((with_reducible refine isDraw [some 24,some 25,some 26,some 27,some 28,some 29,some 30,some 31,some 32,some 33,some 34,some 35,some 36,some 37,some 38,some 39,some 7,some 8] (by decide) ?_);refine draw_rule [(0,[]),(1,[]),(2,[]),(3,[]),(4,[]),(5,[]),(6,[]),(7,[]),(8,[5,6]),(9,[5,6]),(10,[5,6]),(11,[5,6]),(12,[5,6]),(13,[5,6]),(14,[5,6]),(15,[5,6]),(16,[13,14]),(17,[])] [[],[],[],[2],[1,2,3],[1,2,3,4],[1,2,3,4,5],[0,1,2,3,4,5,6],[],[],[],[10],[9,10,11],[9,10,11,12],[9,10,11,12,13],[8,9,10,11,12,13,14],[0,1,2,3,4,5,6,7],[0,1,2,3,4,5,6,7,8,9,10,11,12,13,14,15,16]] [24,25,26,27,28,29,30,31,32,33,34,35,36,37,38,39,7] [] (by kernel_rfl) (by kernel_rfl) (by kernel_rfl) (by kernel_rfl) (by exact trivial) ?_)|((with_reducible refine isDraw [some 40,some 41,some 42,some 43,some 44,some 45,some 46,some 47,some 48,some 49,some 50,some 51,some 52,some 53,some 54,some 55,some 56,some 57,some 58,some 59,some 60,some 61] (by decide) ?_);refine draw_rule [(0,[]),(1,[]),(2,[]),(3,[]),(4,[]),(5,[]),(6,[]),(7,[]),(8,[]),(9,[]),(10,[]),(11,[8,9]),(12,[8,9]),(13,[8,9]),(14,[8,9]),(15,[8,9]),(16,[8,9]),(17,[8,9]),(18,[8,9]),(19,[8,9]),(20,[]),(21,[])] [[],[0],[0,1],[0,1,2],[0,1,2],[0,1,2],[0,1,2,5],[0,1,2,4,5,6],[0,1,2,4,5,6,7],[0,1,2,4,5,6,7,8],[0,1,2,3,4,5,6,7,8,9],[0,1,2],[0,1,2,11],[0,1,2],[0,1,2],[0,1,2,14],[0,1,2,13,14,15],[0,1,2,13,14,15,16],[0,1,2,13,14,15,16,17],[0,1,2,11,12,13,14,15,16,17,18],[0,1,2,3,4,5,6,7,8,9,10,11,12,13,14,15,16,17,18,19],[0,1,2,3,4,5,6,7,8,9,10,11,12,13,14,15,16,17,18,19,20]] [43,44,45,46,47,48,49,50,51,52,53,54,55,56,57,58,59] [] (by kernel_rfl) (by kernel_rfl) (by kernel_rfl) (by kernel_rfl) (by exact trivial) ?_)|(refine And.intro ?_ ?_;(try simp only[sxO]at *);omega)|fail)<;>(try simp (maxSteps:=1000000) only [cE_ment,hasK_nil,cE_kill,cE_len,u32_one,u32_app1,u32_set,Nat.mul_one,gsSt,u32V,hu.one,hv.one,hu.len,hv.len,hv.sl,hB,j1,j2,i3,d1,d2,w1,w2,w7,w8,u2,u3,u4,↓hold_pre,awayP,runOps,regK,step1,newK,genR,appR,obl,buildR,Value.cells,closeK,keepH,outV,retK,ret1,retC,RetV,Option.getD,runD,stepD,afterK,undef,simprocAttr,sxB,↓sxD,sxE,sxTab]))
   exact ⟨q-1,gsSt M u v (m+2) (q-1) (r+v1),by omega,le_sub ⟨rfl,rfl,rfl,rfl,rfl,trivial⟩ trivial rfl rfl rfl (keepLt0 _),_,_,rfl,h2,h3,by omega,rfl⟩
 ·have d1:decide ((4294967296:Int)≤(q:Int))=false:=by simp;omega
  have hm:=mul_le (show q<4294967296 by omega) b5
  have w9:IntKind.u64.wrap ((q:Int)*(v2:Int))=((q*v2:Nat):Int):=by rw[←Int.natCast_mul,wrap64_id (by omega)]
  have w10:=shl32 hr
  have w11:=or32 hr b3
  by_cases hc:r*4294967296+c2<q*v2
  ·have d3:decide (((r*4294967296+c2:Nat):Int)<((q*v2:Nat):Int))=true:=by rw[decide_eq_true_eq];exact Int.ofNat_lt.2 hc
   obtain ⟨h1,h2,h3,w7,w8,h4⟩:=body (.inr hc)
   by_cases hb:4294967296≤r+v1
   ·have d2:decide ((4294967296:Int)≤((r+v1:Nat):Int))=true:=by simp;omega
    refine Go1.mk ?_;repeat' ((first|(with_reducible refine Go1.go ?_)|((with_reducible refine isDraw [some 11,some 12,some 13,some 14,some 15,some 16,some 17,some 18,some 19,some 20,some 21,some 22,some 23,some 6] (by decide) ?_);refine draw_rule [(0,[]),(1,[]),(2,[]),(3,[]),(4,[]),(5,[]),(6,[3,4]),(7,[3,4]),(8,[3,4]),(9,[3,4]),(10,[3,4]),(11,[3,4]),(12,[]),(13,[])] [[],[],[0,1],[0,1,2],[0,1,2,3],[0,1,2,3,4],[],[],[7],[6,7,8],[6,7,8,9],[6,7,8,9,10],[0,1,2,3,4,5,6,7,8,9,10,11],[0,1,2,3,4,5,6,7,8,9,10,11,12]] [11,12,13,14,15,16,17,18,19,20,21,22] [] (by kernel_rfl) (by kernel_rfl) (by kernel_rfl) (by kernel_rfl) (by exact trivial) ?_)|((with_reducible refine isDraw [some 24,some 25,some 26,some 27,some 28,some 29,some 30,some 31,some 32,some 33,some 34,some 35,some 36,some 37,some 38,some 39,some 7,some 8] (by decide) ?_);refine draw_rule [(0,[]),(1,[]),(2,[]),(3,[]),(4,[]),(5,[]),(6,[]),(7,[]),(8,[5,6]),(9,[5,6]),(10,[5,6]),(11,[5,6]),(12,[5,6]),(13,[5,6]),(14,[5,6]),(15,[5,6]),(16,[13,14]),(17,[])] [[],[],[],[2],[1,2,3],[1,2,3,4],[1,2,3,4,5],[0,1,2,3,4,5,6],[],[],[],[10],[9,10,11],[9,10,11,12],[9,10,11,12,13],[8,9,10,11,12,13,14],[0,1,2,3,4,5,6,7],[0,1,2,3,4,5,6,7,8,9,10,11,12,13,14,15,16]] [24,25,26,27,28,29,30,31,32,33,34,35,36,37,38,39,7] [] (by kernel_rfl) (by kernel_rfl) (by kernel_rfl) (by kernel_rfl) (by exact trivial) ?_)|((with_reducible refine isDraw [some 40,some 41,some 42,some 43,some 44,some 45,some 46,some 47,some 48,some 49,some 50,some 51,some 52,some 53,some 54,some 55,some 56,some 57,some 58,some 59,some 60,some 61] (by decide) ?_);refine draw_rule [(0,[]),(1,[]),(2,[]),(3,[]),(4,[]),(5,[]),(6,[]),(7,[]),(8,[]),(9,[]),(10,[]),(11,[8,9]),(12,[8,9]),(13,[8,9]),(14,[8,9]),(15,[8,9]),(16,[8,9]),(17,[8,9]),(18,[8,9]),(19,[8,9]),(20,[]),(21,[])] [[],[0],[0,1],[0,1,2],[0,1,2],[0,1,2],[0,1,2,5],[0,1,2,4,5,6],[0,1,2,4,5,6,7],[0,1,2,4,5,6,7,8],[0,1,2,3,4,5,6,7,8,9],[0,1,2],[0,1,2,11],[0,1,2],[0,1,2],[0,1,2,14],[0,1,2,13,14,15],[0,1,2,13,14,15,16],[0,1,2,13,14,15,16,17],[0,1,2,11,12,13,14,15,16,17,18],[0,1,2,3,4,5,6,7,8,9,10,11,12,13,14,15,16,17,18,19],[0,1,2,3,4,5,6,7,8,9,10,11,12,13,14,15,16,17,18,19,20]] [43,44,45,46,47,48,49,50,51,52,53,54,55,56,57,58,59] [] (by kernel_rfl) (by kernel_rfl) (by kernel_rfl) (by kernel_rfl) (by exact trivial) ?_)|(refine And.intro ?_ ?_;(try simp only[sxO]at *);omega)|fail)<;>(try simp (maxSteps:=1000000) only [cE_ment,hasK_nil,cE_kill,cE_len,u32_one,u32_app1,u32_set,Nat.mul_one,gsSt,u32V,hu.one,hv.one,hu.len,hv.len,hv.sl,hB,j1,j2,i3,d1,d2,d3,w1,w2,w7,w8,w9,w10,w11,u2,u3,u4,↓hold_pre,awayP,runOps,regK,step1,newK,genR,appR,obl,buildR,Value.cells,closeK,keepH,outV,retK,ret1,retC,RetV,Option.getD,runD,stepD,afterK,undef,simprocAttr,sxB,↓sxD,sxE,sxTab]))
    exact hK _ (h4 hb).1 h2 (h4 hb).2
   ·have d2:decide ((4294967296:Int)≤((r+v1:Nat):Int))=false:=by simp;omega
    refine Go1.mk ?_;repeat' ((first|(with_reducible refine Go1.go ?_)|((with_reducible refine isDraw [some 11,some 12,some 13,some 14,some 15,some 16,some 17,some 18,some 19,some 20,some 21,some 22,some 23,some 6] (by decide) ?_);refine draw_rule [(0,[]),(1,[]),(2,[]),(3,[]),(4,[]),(5,[]),(6,[3,4]),(7,[3,4]),(8,[3,4]),(9,[3,4]),(10,[3,4]),(11,[3,4]),(12,[]),(13,[])] [[],[],[0,1],[0,1,2],[0,1,2,3],[0,1,2,3,4],[],[],[7],[6,7,8],[6,7,8,9],[6,7,8,9,10],[0,1,2,3,4,5,6,7,8,9,10,11],[0,1,2,3,4,5,6,7,8,9,10,11,12]] [11,12,13,14,15,16,17,18,19,20,21,22] [] (by kernel_rfl) (by kernel_rfl) (by kernel_rfl) (by kernel_rfl) (by exact trivial) ?_)|((with_reducible refine isDraw [some 24,some 25,some 26,some 27,some 28,some 29,some 30,some 31,some 32,some 33,some 34,some 35,some 36,some 37,some 38,some 39,some 7,some 8] (by decide) ?_);refine draw_rule [(0,[]),(1,[]),(2,[]),(3,[]),(4,[]),(5,[]),(6,[]),(7,[]),(8,[5,6]),(9,[5,6]),(10,[5,6]),(11,[5,6]),(12,[5,6]),(13,[5,6]),(14,[5,6]),(15,[5,6]),(16,[13,14]),(17,[])] [[],[],[],[2],[1,2,3],[1,2,3,4],[1,2,3,4,5],[0,1,2,3,4,5,6],[],[],[],[10],[9,10,11],[9,10,11,12],[9,10,11,12,13],[8,9,10,11,12,13,14],[0,1,2,3,4,5,6,7],[0,1,2,3,4,5,6,7,8,9,10,11,12,13,14,15,16]] [24,25,26,27,28,29,30,31,32,33,34,35,36,37,38,39,7] [] (by kernel_rfl) (by kernel_rfl) (by kernel_rfl) (by kernel_rfl) (by exact trivial) ?_)|((with_reducible refine isDraw [some 40,some 41,some 42,some 43,some 44,some 45,some 46,some 47,some 48,some 49,some 50,some 51,some 52,some 53,some 54,some 55,some 56,some 57,some 58,some 59,some 60,some 61] (by decide) ?_);refine draw_rule [(0,[]),(1,[]),(2,[]),(3,[]),(4,[]),(5,[]),(6,[]),(7,[]),(8,[]),(9,[]),(10,[]),(11,[8,9]),(12,[8,9]),(13,[8,9]),(14,[8,9]),(15,[8,9]),(16,[8,9]),(17,[8,9]),(18,[8,9]),(19,[8,9]),(20,[]),(21,[])] [[],[0],[0,1],[0,1,2],[0,1,2],[0,1,2],[0,1,2,5],[0,1,2,4,5,6],[0,1,2,4,5,6,7],[0,1,2,4,5,6,7,8],[0,1,2,3,4,5,6,7,8,9],[0,1,2],[0,1,2,11],[0,1,2],[0,1,2],[0,1,2,14],[0,1,2,13,14,15],[0,1,2,13,14,15,16],[0,1,2,13,14,15,16,17],[0,1,2,11,12,13,14,15,16,17,18],[0,1,2,3,4,5,6,7,8,9,10,11,12,13,14,15,16,17,18,19],[0,1,2,3,4,5,6,7,8,9,10,11,12,13,14,15,16,17,18,19,20]] [43,44,45,46,47,48,49,50,51,52,53,54,55,56,57,58,59] [] (by kernel_rfl) (by kernel_rfl) (by kernel_rfl) (by kernel_rfl) (by exact trivial) ?_)|(refine And.intro ?_ ?_;(try simp only[sxO]at *);omega)|fail)<;>(try simp (maxSteps:=1000000) only [cE_ment,hasK_nil,cE_kill,cE_len,u32_one,u32_app1,u32_set,Nat.mul_one,gsSt,u32V,hu.one,hv.one,hu.len,hv.len,hv.sl,hB,j1,j2,i3,d1,d2,d3,w1,w2,w7,w8,w9,w10,w11,u2,u3,u4,↓hold_pre,awayP,runOps,regK,step1,newK,genR,appR,obl,buildR,Value.cells,closeK,keepH,outV,retK,ret1,retC,RetV,Option.getD,runD,stepD,afterK,undef,simprocAttr,sxB,↓sxD,sxE,sxTab]))
    exact ⟨q-1,gsSt M u v (m+2) (q-1) (r+v1),by omega,le_sub ⟨rfl,rfl,rfl,rfl,rfl,trivial⟩ trivial rfl rfl rfl (keepLt0 _),_,_,rfl,h2,h3,by omega,rfl⟩
  ·have d3:decide (((r*4294967296+c2:Nat):Int)<((q*v2:Nat):Int))=false:=by rw[decide_eq_false_iff_not];exact fun h=>hc (Int.ofNat_lt.1 h)
   refine Go1.mk ?_;repeat' ((first|(with_reducible refine Go1.go ?_)|((with_reducible refine isDraw [some 11,some 12,some 13,some 14,some 15,some 16,some 17,some 18,some 19,some 20,some 21,some 22,some 23,some 6] (by decide) ?_);refine draw_rule [(0,[]),(1,[]),(2,[]),(3,[]),(4,[]),(5,[]),(6,[3,4]),(7,[3,4]),(8,[3,4]),(9,[3,4]),(10,[3,4]),(11,[3,4]),(12,[]),(13,[])] [[],[],[0,1],[0,1,2],[0,1,2,3],[0,1,2,3,4],[],[],[7],[6,7,8],[6,7,8,9],[6,7,8,9,10],[0,1,2,3,4,5,6,7,8,9,10,11],[0,1,2,3,4,5,6,7,8,9,10,11,12]] [11,12,13,14,15,16,17,18,19,20,21,22] [] (by kernel_rfl) (by kernel_rfl) (by kernel_rfl) (by kernel_rfl) (by exact trivial) ?_)|((with_reducible refine isDraw [some 24,some 25,some 26,some 27,some 28,some 29,some 30,some 31,some 32,some 33,some 34,some 35,some 36,some 37,some 38,some 39,some 7,some 8] (by decide) ?_);refine draw_rule [(0,[]),(1,[]),(2,[]),(3,[]),(4,[]),(5,[]),(6,[]),(7,[]),(8,[5,6]),(9,[5,6]),(10,[5,6]),(11,[5,6]),(12,[5,6]),(13,[5,6]),(14,[5,6]),(15,[5,6]),(16,[13,14]),(17,[])] [[],[],[],[2],[1,2,3],[1,2,3,4],[1,2,3,4,5],[0,1,2,3,4,5,6],[],[],[],[10],[9,10,11],[9,10,11,12],[9,10,11,12,13],[8,9,10,11,12,13,14],[0,1,2,3,4,5,6,7],[0,1,2,3,4,5,6,7,8,9,10,11,12,13,14,15,16]] [24,25,26,27,28,29,30,31,32,33,34,35,36,37,38,39,7] [] (by kernel_rfl) (by kernel_rfl) (by kernel_rfl) (by kernel_rfl) (by exact trivial) ?_)|((with_reducible refine isDraw [some 40,some 41,some 42,some 43,some 44,some 45,some 46,some 47,some 48,some 49,some 50,some 51,some 52,some 53,some 54,some 55,some 56,some 57,some 58,some 59,some 60,some 61] (by decide) ?_);refine draw_rule [(0,[]),(1,[]),(2,[]),(3,[]),(4,[]),(5,[]),(6,[]),(7,[]),(8,[]),(9,[]),(10,[]),(11,[8,9]),(12,[8,9]),(13,[8,9]),(14,[8,9]),(15,[8,9]),(16,[8,9]),(17,[8,9]),(18,[8,9]),(19,[8,9]),(20,[]),(21,[])] [[],[0],[0,1],[0,1,2],[0,1,2],[0,1,2],[0,1,2,5],[0,1,2,4,5,6],[0,1,2,4,5,6,7],[0,1,2,4,5,6,7,8],[0,1,2,3,4,5,6,7,8,9],[0,1,2],[0,1,2,11],[0,1,2],[0,1,2],[0,1,2,14],[0,1,2,13,14,15],[0,1,2,13,14,15,16],[0,1,2,13,14,15,16,17],[0,1,2,11,12,13,14,15,16,17,18],[0,1,2,3,4,5,6,7,8,9,10,11,12,13,14,15,16,17,18,19],[0,1,2,3,4,5,6,7,8,9,10,11,12,13,14,15,16,17,18,19,20]] [43,44,45,46,47,48,49,50,51,52,53,54,55,56,57,58,59] [] (by kernel_rfl) (by kernel_rfl) (by kernel_rfl) (by kernel_rfl) (by exact trivial) ?_)|(refine And.intro ?_ ?_;(try simp only[sxO]at *);omega)|fail)<;>(try simp (maxSteps:=1000000) only [cE_ment,hasK_nil,cE_kill,cE_len,u32_one,u32_app1,u32_set,Nat.mul_one,gsSt,u32V,hu.one,hv.one,hu.len,hv.len,hv.sl,hB,j1,j2,i3,d1,d3,w1,w2,w9,w10,w11,u2,u3,u4,↓hold_pre,awayP,runOps,regK,step1,newK,genR,appR,obl,buildR,Value.cells,closeK,keepH,outV,retK,ret1,retC,RetV,Option.getD,runD,stepD,afterK,undef,simprocAttr,sxB,↓sxD,sxE,sxTab]))
   exact hK q (by omega) hqd (guess_exit hcB hcC hrB htop hqr (by omega) (by omega))
end
end Go.Proofs.Ytjapnklocibgaaa.Sx
