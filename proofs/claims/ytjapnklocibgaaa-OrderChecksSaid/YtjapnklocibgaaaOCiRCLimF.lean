/- Part 27 of the texts of this claim: a symbolic executor and contracts of functions. -/
import Derived.Test.YtjapnklocibgaaaOCiRCLimE
namespace Go.Proofs.Ytjapnklocibgaaa.Sx
open Go Go.RowKit
set_option linter.unusedVariables false
set_option linter.unusedSimpArgs false
set_option maxRecDepth 100000
set_option maxHeartbeats 8000000
attribute [local congr] fin_congr finG_congr stepG_congr step1_congr runOps_congr brv_congr obl_congr condK_congr LoopK_congr seqK_congr CutK_congr vc_congr DrawK_congr regK_congr CallK_congr AskK_congr newK_congr retC_congr ret1_congr retK_congr outV_congr closeK_congr genR_congr appR_congr finD_congr finGD_congr stepGD_congr stepD_congr CallK0_congr runD_congr okR_congr CallS_congr vcX_congr
attribute [local congr] Stop_congr
theorem mid_set(P C S:List Nat)(j i v:Nat)(hj:P.length=j)(hi:i<C.length):(P++(C++S)).set (j+i) v=P++(C.set i v++S):=by
 subst hj
 rw[List.set_append_right _ _ (by omega),Nat.add_sub_cancel_left,List.set_append_left _ _ hi]
theorem mid_at(P C S:List Nat)(j i:Nat)(hj:P.length=j)(hi:i<C.length):(P++(C++S))[j+i]? = some C[i]:=by
 subst hj
 rw[List.getElem?_append_right (by omega),Nat.add_sub_cancel_left,List.getElem?_append_left hi,List.getElem?_eq_getElem hi]
theorem u32_mid{P C S:List Nat}{j i:Nat}(hj:P.length=j)(hi:i<C.length):(cE u32V (P++(C++S)))[j+i]? = some (.ext (.int .u32 (C[i]:Int))):=by
 have:=mid_at P C S j i hj hi
 unfold cE
 rw[List.getElem?_map,List.getElem?_map,this];rfl
section
variable {M:Mem}{K:AV→Hp→Mem→Prop}
def rdH(P C S B:List Nat):Hp:=[(1013,55,cE u32V (P++(C++S))),(2013,55,cE u32V B)]
def rdSt(M:Mem)(P S B:List Nat)(j n q:Nat)(i b ca:Nat)(C:List Nat):St:={env:=[(19,.ext (.int .i64 (i:Int))),(18,.ext (.int .i64 (n:Int))),(17,.slo 2013 0 n 1),(8,.ext (.int .u64 (ca:Int))),(7,.ext (.int .u64 (b:Int))),(0,.slo 1013 j (n+1) 1),(1,.slo 2013 0 n 1),(2,.ext (.int .u64 (q:Int)))],hp:=rdH P C S B,M:=M,kb:=3000,fx:=[1013,2013]}
def rbSt(M:Mem)(P S B:List Nat)(j n q:Nat)(i ca:Nat)(C:List Nat):St:={env:=[(74,.ext (.int .i64 (i:Int))),(73,.ext (.int .i64 (n:Int))),(72,.slo 2013 0 n 1),(8,.ext (.int .u64 (ca:Int))),(0,.slo 1013 j (n+1) 1),(1,.slo 2013 0 n 1),(2,.ext (.int .u64 (q:Int)))],hp:=rdH P C S B,M:=M,kb:=3000,fx:=[1013,2013]}
theorem reduce_ok(P C S B:List Nat)(j n q:Nat)(hj:P.length=j)(hC:C.length=n+1)(hB:B.length=n)(hn:n<1000000000)(hj2:j<1000000000)(hoC:okN C)(hoB:okN B)(hq:q<4294967296)(hV:0<valN B)(hq1:valN C / valN B≤q)(hq2:q≤valN C / valN B+1)
  (hK:∀(C':List Nat),C'.length=n+1→okN C'→valN C'+valN C / valN B*valN B=valN C→valN C'<valN B→K (.ext (.int .u32 ((valN C / valN B:Nat):Int))) (rdH P C' S B) M) :
  CallS Try.prog 86 [.slo 1013 j (n+1) 1,.slo 2013 0 n 1,.ext (.int .u64 (q:Int))] (rdH P C S B) M [] K:=by
 refine inlS (cs:=[]) (f:=86) Try.mixed Try.func86 rfl (by kernel_rfl) 3000 rfl rfl ?_
 simp only[Try.f86]
 have e0:∀D,keysH (rdH P D S B)=[1013,2013]:=fun D=>rfl
 have e0C:=e0 C
 refine Go1.mk ?_;repeat' ((first|(with_reducible refine Go1.go ?_)|(refine And.intro ?_ ?_;(try simp only[sxO]at *);omega)|fail)<;>(try simp (maxSteps:=1000000) only [cE_ment,hasK_nil,cE_kill,cE_len,u32_one,u32_app1,u32_set,Nat.mul_one,e0C,rdH,↓hold_pre,awayP,runOps,regK,step1,newK,genR,appR,obl,buildR,Value.cells,closeK,keepH,outV,retK,ret1,retC,RetV,Option.getD,runD,stepD,afterK,undef,simprocAttr,sxB,↓sxD,sxE,sxTab]))
 refine ⟨fun d z=>∃i b ca D,d=n-i∧i≤n∧D.length=n+1∧okN D∧b≤1∧ca<4294967296∧valN D+q*valN (B.take i)=valN C+wN i*(ca+b)∧z=rdSt M P S B j n q i b ca D,
  ⟨n,rdSt M P S B j n q 0 0 0 C,le_sub ⟨rfl,rfl,rfl,rfl,rfl,rfl,rfl,rfl,trivial⟩ ⟨rfl,rfl,trivial⟩ rfl rfl rfl (by simp[keepLt,rdSt,rdH,lkH]),⟨0,0,0,C,rfl,by omega,hC,hoC,by omega,by omega,by simp[valN],rfl⟩⟩,?_⟩
 rintro d z ⟨i,b,ca,D,rfl,hi,hD,hoD,hb,hca,hval,rfl⟩
 have hCL:valN C<wN (n+1):=by have:=valN_lt hoC;rwa[hC]at this
 have hBL:valN B≤wN (n+1):=by have:=valN_lt hoB;rw[hB]at this;exact Nat.le_trans (Nat.le_of_lt this) (wN_mono (by omega))
 by_cases hlt:i<n
 case pos=>
  have hiD:i<D.length:=by omega
  have hiB:i<B.length:=by omega
  have hat:=u32_mid (S:=S) hj hiD
  have hbt:=u32_at hiB
  have hgy:B.getD i 0=B[i]:=by simp[List.getD,hiB]
  have hy:=okN_at hoB hiB
  have hc0:=okN_at hoD hiD
  have hmy:=mul_le hq hy
  generalize B[i]=y at *
  have w1:IntKind.u64.wrap (y:Int)=(y:Int):=wrap64_id (by omega)
  have w2:IntKind.u64.wrap ((q:Int)*(y:Int))=((q*y:Nat):Int):=by rw[←Int.natCast_mul,wrap64_id (by omega)]
  have w3:IntKind.u64.wrap (((q*y:Nat):Int)+(ca:Int))=((q*y+ca:Nat):Int):=by rw[←Int.natCast_add,wrap64_id (by omega)]
  have w4:=shr32 (q*y+ca)
  have w5:IntKind.u64.wrap (D[i]:Int)=(D[i]:Int):=wrap64_id (by omega)
  have w6:IntKind.u64.wrap ((D[i]:Int)-(b:Int))=((subW D[i] b:Nat):Int):=wrap64_sub (by omega)
  have w7:=wrap32 (q*y+ca)
  have hp:=Nat.mod_lt (q*y+ca) (show 0<4294967296 by decide)
  have hca2:(q*y+ca) / 4294967296<4294967296:=by omega
  obtain ⟨s1,s2⟩:=subW_3 hc0 hp hb
  have st:=red_step hiD hval y s1
  generalize hpl:(q*y+ca) % 4294967296=pl at *
  have w8:IntKind.u64.wrap (pl:Int)=(pl:Int):=wrap64_id (by omega)
  have w9:IntKind.u64.wrap (((subW D[i] b:Nat):Int)-(pl:Int))=((subW (subW D[i] b) pl:Nat):Int):=wrap64_sub (by omega)
  have w10:=wrap32 (subW (subW D[i] b) pl)
  have w11:=shr63 (subW (subW D[i] b) pl)
  have w12:IntKind.i64.wrap ((i:Int)+1)=((i+1:Nat):Int):=succ_i (by omega)
  have hms:=mid_set P D S j i (subW (subW D[i] b) pl % 4294967296) hj hiD
  have d0:decide ((i:Int)<(n:Int))=true:=by simp;omega
  have d1:(0:Int)≤(i:Int):=by omega
  have d2:(i:Int)<(n:Int):=by omega
  have d3:(i:Int)<((n+1:Nat):Int):=by omega
  have d4:(j+i<(P++(D++S)).length)=True:=by simp;omega
  refine Go1.mk ?_;repeat' ((first|(with_reducible refine Go1.go ?_)|(refine And.intro ?_ ?_;(try simp only[sxO]at *);omega)|fail)<;>(try simp (maxSteps:=1000000) only [cE_ment,hasK_nil,cE_kill,cE_len,u32_one,u32_app1,u32_set,Nat.mul_one,rdSt,rdH,hat,hbt,w1,w2,w3,w4,w5,w6,w7,w8,w9,w10,w11,w12,hms,d0,d1,d2,d3,d4,↓hold_pre,awayP,runOps,regK,step1,newK,genR,appR,obl,buildR,Value.cells,closeK,keepH,outV,retK,ret1,retC,RetV,Option.getD,runD,stepD,afterK,undef,simprocAttr,sxB,↓sxD,sxE,sxTab]))
  exact ⟨n-(i+1),rdSt M P S B j n q (i+1) _ _ (D.set i _),by omega,le_sub ⟨rfl,rfl,rfl,rfl,rfl,rfl,rfl,rfl,trivial⟩ ⟨rfl,rfl,trivial⟩ rfl rfl rfl (by simp[keepLt,rdSt,rdH,lkH]),i+1,_,_,_,rfl,by omega,by rw[List.length_set];exact hD,okN_set hoD (Nat.mod_lt _ (by decide)),s2,hca2,by rw[take_val,hgy];exact st,rfl⟩
 obtain rfl:i=n:=by omega
 rw[take_all (by omega)]at hval
 have hiD:i<D.length:=by omega
 have hat:=u32_mid (S:=S) hj hiD
 have hc0:=okN_at hoD hiD
 have d0:decide ((i:Int)<(i:Int))=false:=by simp
 have d1:(0:Int)≤(i:Int):=by omega
 have d3:(i:Int)<((i+1:Nat):Int):=by omega
 have d4:(j+i<(P++(D++S)).length)=True:=by simp;omega
 have w5:IntKind.u64.wrap (D[i]:Int)=(D[i]:Int):=wrap64_id (by omega)
 have w6:IntKind.u64.wrap ((D[i]:Int)-(b:Int))=((subW D[i] b:Nat):Int):=wrap64_sub (by omega)
 have w9:IntKind.u64.wrap (((subW D[i] b:Nat):Int)-(ca:Int))=((subW (subW D[i] b) ca:Nat):Int):=wrap64_sub (by omega)
 have w10:=wrap32 (subW (subW D[i] b) ca)
 have w11:=shr63 (subW (subW D[i] b) ca)
 have hms:=mid_set P D S j i (subW (subW D[i] b) ca % 4294967296) hj hiD
 obtain ⟨s1,s2⟩:=subW_3 hc0 hca hb
 have st:=red_last hiD hval s1
 have ho2:=okN_set (i:=i) hoD (Nat.mod_lt (subW (subW D[i] b) ca) (show 0<4294967296 by decide))
 have hl2:(D.set i (subW (subW D[i] b) ca % 4294967296)).length=i+1:=by rw[List.length_set];exact hD
 have hlt2:=valN_lt ho2
 rw[hl2]at hlt2
 have w13:IntKind.u32.wrap (q:Int)=(q:Int):=wrap32_id hq
 have hbb:subW (subW D[i] b) ca / 9223372036854775808=0∨subW (subW D[i] b) ca / 9223372036854775808=1:=by omega
 rcases hbb with hb0|hb1
 ·have d5:decide (((subW (subW D[i] b) ca / 9223372036854775808:Nat):Int)=0)=true:=by rw[hb0];rfl
  rw[hb0]at st
  obtain ⟨r1,r2,r3⟩:=red_ok hlt2 hCL hV st hq1
  rw[←r1]at hK r2
  refine Go1.mk ?_;repeat' ((first|(with_reducible refine Go1.go ?_)|(refine And.intro ?_ ?_;(try simp only[sxO]at *);omega)|fail)<;>(try simp (maxSteps:=1000000) only [cE_ment,hasK_nil,cE_kill,cE_len,u32_one,u32_app1,u32_set,Nat.mul_one,rdSt,rdH,hat,w5,w6,w9,w10,w11,w13,hms,d0,d1,d3,d4,d5,e0,↓hold_pre,awayP,runOps,regK,step1,newK,genR,appR,obl,buildR,Value.cells,closeK,keepH,outV,retK,ret1,retC,RetV,Option.getD,runD,stepD,afterK,undef,simprocAttr,sxB,↓sxD,sxE,sxTab]))
  exact hK _ hl2 ho2 r2 r3
 have d5:decide (((subW (subW D[i] b) ca / 9223372036854775808:Nat):Int)=0)=false:=by rw[hb1];rfl
 rw[hb1]at st
 generalize hD2:D.set i (subW (subW D[i] b) ca % 4294967296)=D2 at *
 refine Go1.mk ?_;repeat' ((first|(with_reducible refine Go1.go ?_)|(refine And.intro ?_ ?_;(try simp only[sxO]at *);omega)|fail)<;>(try simp (maxSteps:=1000000) only [cE_ment,hasK_nil,cE_kill,cE_len,u32_one,u32_app1,u32_set,Nat.mul_one,rdSt,rdH,hat,w5,w6,w9,w10,w11,w13,hms,d0,d1,d3,d4,d5,e0,↓hold_pre,awayP,runOps,regK,step1,newK,genR,appR,obl,buildR,Value.cells,closeK,keepH,outV,retK,ret1,retC,RetV,Option.getD,runD,stepD,afterK,undef,simprocAttr,sxB,↓sxD,sxE,sxTab]))
 refine ⟨fun d z=>∃k c E,d=i-k∧k≤i∧E.length=i+1∧okN E∧c≤1∧valN E+wN k*c=valN D2+valN (B.take k)∧z=rbSt M P S B j i q k c E,
  ⟨i,rbSt M P S B j i q 0 0 D2,le_sub ⟨rfl,rfl,rfl,rfl,rfl,rfl,rfl,trivial⟩ ⟨rfl,rfl,trivial⟩ rfl rfl rfl (by simp[keepLt,rbSt,rdH,lkH]),⟨0,0,D2,rfl,by omega,hl2,ho2,by omega,by simp[valN],rfl⟩⟩,?_⟩
 clear hat w5 w6 w9 w10 w11 hms s1 s2 hb1 d5 hD2 hiD hoD hval hD hc0
 rintro d z ⟨k,c,E,rfl,hk,hE,hoE,hc,hval,rfl⟩
 by_cases hlt3:k<i
 case pos=>
  have hkE:k<E.length:=by omega
  have hkB:k<B.length:=by omega
  have hat:=u32_mid (S:=S) hj hkE
  have hbt:=u32_at hkB
  have hgy:B.getD k 0=B[k]:=by simp[List.getD,hkB]
  have hy:=okN_at hoB hkB
  have hc0:=okN_at hoE hkE
  have st2:=back_step hkE hval B[k]
  generalize B[k]=y at *
  have w1:IntKind.u64.wrap (y:Int)=(y:Int):=wrap64_id (by omega)
  have w5:IntKind.u64.wrap (E[k]:Int)=(E[k]:Int):=wrap64_id (by omega)
  have w6:IntKind.u64.wrap ((E[k]:Int)+(y:Int))=((E[k]+y:Nat):Int):=by rw[←Int.natCast_add,wrap64_id (by omega)]
  have w7:IntKind.u64.wrap (((E[k]+y:Nat):Int)+(c:Int))=((E[k]+y+c:Nat):Int):=by rw[←Int.natCast_add,wrap64_id (by omega)]
  have w10:=wrap32 (E[k]+y+c)
  have w11:=shr32 (E[k]+y+c)
  have w12:IntKind.i64.wrap ((k:Int)+1)=((k+1:Nat):Int):=succ_i (by omega)
  have hms:=mid_set P E S j k ((E[k]+y+c) % 4294967296) hj hkE
  have d0:decide ((k:Int)<(i:Int))=true:=by simp;omega
  have d1:(0:Int)≤(k:Int):=by omega
  have d2:(k:Int)<(i:Int):=by omega
  have d3:(k:Int)<((i+1:Nat):Int):=by omega
  have d4:(j+k<(P++(E++S)).length)=True:=by simp;omega
  have hc3:(E[k]+y+c) / 4294967296≤1:=by omega
  refine Go1.mk ?_;repeat' ((first|(with_reducible refine Go1.go ?_)|(refine And.intro ?_ ?_;(try simp only[sxO]at *);omega)|fail)<;>(try simp (maxSteps:=1000000) only [cE_ment,hasK_nil,cE_kill,cE_len,u32_one,u32_app1,u32_set,Nat.mul_one,rbSt,rdH,hat,hbt,w1,w5,w6,w7,w10,w11,w12,hms,d0,d1,d2,d3,d4,↓hold_pre,awayP,runOps,regK,step1,newK,genR,appR,obl,buildR,Value.cells,closeK,keepH,outV,retK,ret1,retC,RetV,Option.getD,runD,stepD,afterK,undef,simprocAttr,sxB,↓sxD,sxE,sxTab]))
  exact ⟨i-(k+1),rbSt M P S B j i q (k+1) _ (E.set k _),by omega,le_sub ⟨rfl,rfl,rfl,rfl,rfl,rfl,rfl,trivial⟩ ⟨rfl,rfl,trivial⟩ rfl rfl rfl (by simp[keepLt,rbSt,rdH,lkH]),k+1,_,_,rfl,by omega,by rw[List.length_set];exact hE,okN_set hoE (Nat.mod_lt _ (by decide)),hc3,by rw[take_val,hgy];exact st2,rfl⟩
 obtain rfl:k=i:=by omega
 rw[take_all (by omega)]at hval
 have hkE:k<E.length:=by omega
 have hat:=u32_mid (S:=S) hj hkE
 have hc0:=okN_at hoE hkE
 have st2:=back_step hkE hval 0
 rw[Nat.mul_zero,Nat.add_zero,Nat.add_zero]at st2
 have d4:(j+k<(P++(E++S)).length)=True:=by simp;omega
 have w1:IntKind.u32.wrap (c:Int)=(c:Int):=wrap32_id (by omega)
 have w2:IntKind.u32.wrap ((E[k]:Int)+(c:Int))=(((E[k]+c) % 4294967296:Nat):Int):=by rw[←Int.natCast_add,wrap32]
 have hms:=mid_set P E S j k ((E[k]+c) % 4294967296) hj hkE
 have ho4:=okN_set (i:=k) hoE (Nat.mod_lt (E[k]+c) (show 0<4294967296 by decide))
 have hl4:(E.set k ((E[k]+c) % 4294967296)).length=k+1:=by rw[List.length_set];exact hE
 have hlt4:=valN_lt ho4
 rw[hl4]at hlt4
 obtain ⟨r1,r2,r3⟩:=red_back hV hBL hlt2 hlt4 st hq2 st2
 have hq0:1≤q:=by
  rcases Nat.eq_zero_or_pos q with h0|h0
  ·subst h0;omega
  ·exact h0
 have w3:IntKind.u64.wrap ((q:Int)-1)=((q-1:Nat):Int):=by rw[wrap64_i (by omega) (by omega)];omega
 have w4:IntKind.u32.wrap ((q-1:Nat):Int)=((q-1:Nat):Int):=wrap32_id (by omega)
 rw[←r1]at hK r2
 refine Go1.mk ?_;repeat' ((first|(with_reducible refine Go1.go ?_)|(refine And.intro ?_ ?_;(try simp only[sxO]at *);omega)|fail)<;>(try simp (maxSteps:=1000000) only [cE_ment,hasK_nil,cE_kill,cE_len,u32_one,u32_app1,u32_set,Nat.mul_one,rbSt,rdH,hat,w1,w2,w3,w4,hms,d0,d1,d3,d4,e0,↓hold_pre,awayP,runOps,regK,step1,newK,genR,appR,obl,buildR,Value.cells,closeK,keepH,outV,retK,ret1,retC,RetV,Option.getD,runD,stepD,afterK,undef,simprocAttr,sxB,↓sxD,sxE,sxTab]))
 exact hK _ hl4 ho4 r2 r3
end
end Go.Proofs.Ytjapnklocibgaaa.Sx
