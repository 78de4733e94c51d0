/- Part 22 of the texts of this claim: a symbolic executor and contracts of functions. -/
import Derived.Test.YtjapnklocibgaaaOCiRCPar
import Derived.Test.YtjapnklocibgaaaOCiRCNatB
namespace Go.Proofs.Ytjapnklocibgaaa.Sx
open Go Go.RowKit
set_option linter.unusedVariables false
set_option linter.unusedSimpArgs false
set_option maxRecDepth 100000
set_option maxHeartbeats 8000000
attribute [local congr] fin_congr finG_congr stepG_congr step1_congr runOps_congr brv_congr obl_congr condK_congr LoopK_congr seqK_congr CutK_congr vc_congr DrawK_congr regK_congr CallK_congr AskK_congr newK_congr retC_congr ret1_congr retK_congr outV_congr closeK_congr genR_congr appR_congr finD_congr finGD_congr stepGD_congr stepD_congr CallK0_congr runD_congr okR_congr CallS_congr vcX_congr
attribute [local congr] Stop_congr
def u32V(x:Nat):Value:=.int .u32 (x:Int)
theorem wrap32(n:Nat):IntKind.u32.wrap (n:Int)=((n % 4294967296:Nat):Int):=by
 show (n:Int) % 4294967296=_
 omega
theorem wrap32_id{n:Nat}(h:n<4294967296):IntKind.u32.wrap (n:Int)=(n:Int):=by rw[wrap32,Nat.mod_eq_of_lt h]
theorem wrap64(n:Nat):IntKind.u64.wrap (n:Int)=((n % 18446744073709551616:Nat):Int):=by
 show (n:Int) % 18446744073709551616=_
 omega
theorem wrap64_id{n:Nat}(h:n<18446744073709551616):IntKind.u64.wrap (n:Int)=(n:Int):=by rw[wrap64,Nat.mod_eq_of_lt h]
theorem wrap64_i{x:Int}(h:0≤x)(h2:x<18446744073709551616):IntKind.u64.wrap x=x:=by
 show x % 18446744073709551616=x
 omega
theorem bits64_or{a b:Nat}(ha:a<2^64)(hb:b<2^64):bits .or .u64 (a:Int) (b:Int)=((a ||| b:Nat):Int):=by
 show IntKind.u64.wrap ((BitVec.ofInt 64 (a:Int) ||| BitVec.ofInt 64 (b:Int)).toNat:Int)=_
 rw[BitVec.ofInt_natCast,BitVec.ofInt_natCast,BitVec.toNat_or,BitVec.toNat_ofNat,BitVec.toNat_ofNat]
 rw[Nat.mod_eq_of_lt ha,Nat.mod_eq_of_lt hb]
 exact wrap64_id (Nat.or_lt_two_pow ha hb)
theorem or_add{a b n:Nat}(h:b<2^n):a*2^n ||| b=a*2^n+b:=by
 rw[←Nat.shiftLeft_eq,Nat.shiftLeft_add_eq_or_of_lt h]
theorem or32{a b:Nat}(ha:a<4294967296)(hb:b<4294967296):bits .or .u64 ((a*4294967296:Nat):Int) (b:Int)=((a*4294967296+b:Nat):Int):=by
 rw[bits64_or (by omega) (by omega),show (4294967296:Nat)=2^32 by decide,or_add (by omega)]
theorem shl32{a:Nat}(ha:a<4294967296):IntKind.u64.wrap ((a:Int)*2^(min 32 IntKind.u64.bits))=((a*4294967296:Nat):Int):=by
 have h1:min 32 IntKind.u64.bits=32:=rfl
 rw[h1,show ((a:Int)*2^32)=((a*4294967296:Nat):Int) by omega,wrap64_id (by omega)]
theorem shr32(a:Nat):(a:Int).fdiv (2^(min 32 IntKind.u64.bits))=((a / 4294967296:Nat):Int):=by
 have h1:min 32 IntKind.u64.bits=32:=rfl
 rw[h1,Int.fdiv_eq_ediv_of_nonneg _ (by decide)];omega
theorem shr63(a:Nat):(a:Int).fdiv (2^(min 63 IntKind.u64.bits))=((a / 9223372036854775808:Nat):Int):=by
 have h1:min 63 IntKind.u64.bits=63:=rfl
 rw[h1,Int.fdiv_eq_ediv_of_nonneg _ (by decide)];omega
theorem u32_one(l:List Nat):allOne (cE u32V l)=True:=eq_true (allOne_cE u32V (fun _=>rfl) l)
theorem u32_app1(l:List Nat)(x:Nat):cE u32V l++[.ext (.int .u32 (x:Int))]=cE u32V (l++[x]):=cE_snoc u32V l x
theorem u32_set(l:List Nat)(i x:Nat):(cE u32V l).set i (.ext (.int .u32 (x:Int)))=cE u32V (l.set i x):=cE_set u32V l i x
theorem u32_at{l:List Nat}{i:Nat}(h:i<l.length):(cE u32V l)[i]? = some (.ext (.int .u32 (l[i]:Int))):=cE_at u32V h
theorem pred_i{j:Nat}(h:0<j)(h2:j<9223372036854775807):IntKind.i64.wrap ((j:Int)-1)=((j-1:Nat):Int):=by rw[wrap_id (by omega) (by omega)];omega
theorem succ_i{j:Nat}(h2:j<9223372036854775807):IntKind.i64.wrap ((j:Int)+1)=((j+1:Nat):Int):=by rw[wrap_id (by omega) (by omega)];omega
section
variable {M:Mem}{K:AV→Hp→Mem→Prop}
def trSt(M:Mem)(k j:Nat)(l:List Nat):St:={env:=[(0,.slo k 0 j 1)],hp:=[(k,55,cE u32V l)],M:=M,kb:=k+1,fx:=[k]}
theorem trim_ok(k n:Nat)(l:List Nat)(hl:l.length=n)(hb:n<1000000000)(ho:okN l)(hK:∀m,l.take m=ofN (valN l)→m=(ofN (valN l)).length→K (.slo k 0 m 1) [(k,55,cE u32V (ofN (valN l)))] M) :
  CallS Try.prog 66 [.slo k 0 n 1] [(k,55,cE u32V l)] M [] K:=by
 refine CallS.cut ?_
 refine inlS (cs:=[]) (f:=66) Try.mixed Try.func66 rfl (by kernel_rfl) (k+1) rfl (by simp[ltB,keysH]) ?_
 simp only[Try.f66]
 refine Go1.mk ?_;repeat' ((first|(with_reducible refine Go1.go ?_)|(refine And.intro ?_ ?_;(try simp only[sxO]at *);omega)|fail)<;>(try simp (maxSteps:=1000000) only [↓hold_pre,awayP,runOps,regK,step1,newK,genR,appR,obl,buildR,Value.cells,closeK,keepH,outV,retK,ret1,retC,RetV,Option.getD,runD,stepD,afterK,undef,simprocAttr,sxB,↓sxD,sxE,sxTab]))
 refine ⟨fun d z=>∃j,j≤n∧(∀i (h:i<l.length),j≤i→l[i]=0)∧j=d∧z=trSt M k j l,⟨n,trSt M k n l,le_sub ⟨rfl,trivial⟩ ⟨by simp[lkH],trivial⟩ rfl rfl rfl (by simp[keepLt,trSt,lkH]),⟨n,Nat.le_refl _,fun i h hi=>by omega,rfl,rfl⟩⟩,?_⟩
 rintro d z ⟨j,hj,hz,rfl,rfl⟩
 have key:(∀h:0<j,l[j-1]≠0)→K (.slo k 0 j 1) [(k,55,cE u32V (l.take j))] M:=fun h=>by
  have e:=take_canon ho (by omega) hz h
  have e2:j=(ofN (valN l)).length:=by rw[←e,List.length_take];omega
  have:=hK j e e2
  rw[e];exact this
 by_cases hlt:0<j
 case neg=>
  obtain rfl:j=0:=by omega
  have d1:decide ((0:Int)<((0:Nat):Int))=false:=by decide
  refine Go1.mk ?_;repeat' ((first|(with_reducible refine Go1.go ?_)|(refine And.intro ?_ ?_;(try simp only[sxO]at *);omega)|fail)<;>(try simp (maxSteps:=1000000) only [cE_ment,hasK_nil,cE_kill,cE_len,u32_one,u32_app1,u32_set,Nat.mul_one,trSt,d1,↓hold_pre,awayP,runOps,regK,step1,newK,genR,appR,obl,buildR,Value.cells,closeK,keepH,outV,retK,ret1,retC,RetV,Option.getD,runD,stepD,afterK,undef,simprocAttr,sxB,↓sxD,sxE,sxTab]))
  exact ⟨k,_,_,0,[],rfl,key (fun h=>by omega)⟩
 have d1:decide ((0:Int)<(j:Int))=true:=by simp;omega
 have d2:(0:Int)≤((j-1:Nat):Int):=by omega
 have d3:((j-1:Nat):Int)<(j:Int):=by omega
 have w1:=pred_i hlt (by omega)
 have hi:j-1<l.length:=by omega
 have hat:=u32_at hi
 by_cases h0:l[j-1]=0
 ·have d4:decide ((l[j-1]:Int)=0)=true:=by simp;omega
  have d5:((j-1:Nat):Int)≤(j:Int):=by omega
  refine Go1.mk ?_;repeat' ((first|(with_reducible refine Go1.go ?_)|(refine And.intro ?_ ?_;(try simp only[sxO]at *);omega)|fail)<;>(try simp (maxSteps:=1000000) only [cE_ment,hasK_nil,cE_kill,cE_len,u32_one,u32_app1,u32_set,Nat.mul_one,trSt,d1,d2,d3,w1,hat,d4,d5,↓hold_pre,awayP,runOps,regK,step1,newK,genR,appR,obl,buildR,Value.cells,closeK,keepH,outV,retK,ret1,retC,RetV,Option.getD,runD,stepD,afterK,undef,simprocAttr,sxB,↓sxD,sxE,sxTab]))
  exact ⟨j-1,_,by omega,le_sub (z:=trSt M k (j-1) l) ⟨rfl,trivial⟩ ⟨by simp[lkH],trivial⟩ rfl rfl rfl (by simp[keepLt,trSt,lkH]),j-1,by omega,fun i h hi=>by
   rcases Nat.lt_or_ge i j with h1|h1
   ·obtain rfl:i=j-1:=by omega
    exact h0
   ·exact hz i h h1,rfl,rfl⟩
 ·have d4:decide ((l[j-1]:Int)=0)=false:=by simp;omega
  refine Go1.mk ?_;repeat' ((first|(with_reducible refine Go1.go ?_)|(refine And.intro ?_ ?_;(try simp only[sxO]at *);omega)|fail)<;>(try simp (maxSteps:=1000000) only [cE_ment,hasK_nil,cE_kill,cE_len,u32_one,u32_app1,u32_set,Nat.mul_one,trSt,d1,d2,d3,w1,hat,d4,↓hold_pre,awayP,runOps,regK,step1,newK,genR,appR,obl,buildR,Value.cells,closeK,keepH,outV,retK,ret1,retC,RetV,Option.getD,runD,stepD,afterK,undef,simprocAttr,sxB,↓sxD,sxE,sxTab]))
  exact ⟨k,_,_,j,[],rfl,by rw[cE_take];exact key (fun h=>h0)⟩
end
end Go.Proofs.Ytjapnklocibgaaa.Sx
