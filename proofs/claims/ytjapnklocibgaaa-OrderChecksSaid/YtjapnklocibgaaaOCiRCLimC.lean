/- Part 24 of the texts of this claim: a symbolic executor and contracts of functions. -/
import Derived.Test.YtjapnklocibgaaaOCiRCLimB
namespace Go.Proofs.Ytjapnklocibgaaa.Sx
open Go Go.RowKit
set_option linter.unusedVariables false
set_option linter.unusedSimpArgs false
set_option maxRecDepth 100000
set_option maxHeartbeats 8000000
attribute [local congr] fin_congr finG_congr stepG_congr step1_congr runOps_congr brv_congr obl_congr condK_congr LoopK_congr seqK_congr CutK_congr vc_congr DrawK_congr regK_congr CallK_congr AskK_congr newK_congr retC_congr ret1_congr retK_congr outV_congr closeK_congr genR_congr appR_congr finD_congr finGD_congr stepGD_congr stepD_congr CallK0_congr runD_congr okR_congr CallS_congr vcX_congr
attribute [local congr] Stop_congr
theorem isSl_cells{u:Value}(h:isSl u=true):u.cells.toList=[u]:=by cases u<;>first|rfl|cases h
section
variable {M:Mem}{K:AV→Hp→Mem→Prop}
def meH(v:Value)(n:Nat)(out:List Nat):Hp:=[(14,55,cE u32V out),(5,31,[.slo 14 0 n 1]),(3,31,[.ext v])]
def meSt(M:Mem)(v:Value)(i x lb k c:Nat)(n:Nat)(out:List Nat):St:={env:=[(12,.ext (.int .i64 (k:Int))),(11,.ext (.int .i64 (lb:Int))),(10,.ext v),(6,.ext (.int .u64 (c:Int))),(0,.ext (.int .i64 (i:Int))),(1,.ext (.int .u32 (x:Int))),(2,.own 3 0),(3,.own 5 0)],hp:=meH v n out,M:=M,kb:=100,fx:=[14,5,3]}
theorem each_ok(v:Value)(i x n:Nat)(b out:List Nat)(hv:IsL M u32V v b)(hb:okN b)(hx:x<4294967296)(hn:out.length=n)(hin:i+b.length<n)(hn2:n<1000000000)(ho:okN out)(hz:out[i+b.length]'(by omega)=0)
  (hK:∀out',out'.length=n→okN out'→valN out'=valN out+wN i*(x*valN b)→(∀j (h:j<out'.length) (h2:j<out.length),i+b.length<j→out'[j]=out[j])→K (.ext (.tuple #[])) (meH v n out') M) :
  CallS Try.prog 65 [.ext (.int .i64 (i:Int)),.ext (.int .u32 (x:Int)),.own 3 0,.own 5 0] (meH v n out) M [] K:=by
 refine inlS (cs:=[]) (f:=65) Try.mixed Try.func65 rfl (by kernel_rfl) 100 rfl rfl ?_
 simp only[Try.f65]
 have e0:keysH (meH v n out)=[14,5,3]:=rfl
 refine Go1.mk ?_;repeat' ((first|(with_reducible refine Go1.go ?_)|(refine And.intro ?_ ?_;(try simp only[sxO]at *);omega)|fail)<;>(try simp (maxSteps:=1000000) only [cE_ment,hasK_nil,cE_kill,cE_len,u32_one,u32_app1,u32_set,Nat.mul_one,e0,meH,hv.one,hv.len,hv.sl,↓hold_pre,awayP,runOps,regK,step1,newK,genR,appR,obl,buildR,Value.cells,closeK,keepH,outV,retK,ret1,retC,RetV,Option.getD,runD,stepD,afterK,undef,simprocAttr,sxB,↓sxD,sxE,sxTab]))
 refine ⟨fun d z=>∃k c o,d=b.length-k∧k≤b.length∧o.length=n∧okN o∧c<4294967296∧valN o+wN (i+k)*c=valN out+wN i*(x*valN (b.take k))∧(∀j (h:j<o.length) (h2:j<out.length),i+k≤j→o[j]=out[j])∧z=meSt M v i x b.length k c n o,
  ⟨b.length,meSt M v i x b.length 0 0 n out,le_sub ⟨rfl,rfl,rfl,rfl,rfl,rfl,rfl,rfl,trivial⟩ ⟨rfl,rfl,rfl,trivial⟩ rfl rfl rfl (by simp[keepLt,meSt,meH,lkH]),⟨0,0,out,rfl,by omega,hn,ho,by omega,by simp[valN],fun j h h2 _=>rfl,rfl⟩⟩,?_⟩
 rintro d z ⟨k,c,o,rfl,hk,hlo,hoo,hc,hval,hrest,rfl⟩
 have w1:IntKind.i64.wrap ((i:Int)+(k:Int))=((i+k:Nat):Int):=by rw[wrap_id (by omega) (by omega)];omega
 by_cases hlt:k<b.length
 case neg=>
  obtain rfl:k=b.length:=by omega
  have d1:decide ((b.length:Int)<(b.length:Int))=false:=by simp
  have d2:(0:Int)≤((i+b.length:Nat):Int):=by omega
  have d3:((i+b.length:Nat):Int)<(n:Int):=by omega
  have d4:(i+b.length<n)=True:=by simp;omega
  have w2:IntKind.u32.wrap (c:Int)=(c:Int):=wrap32_id hc
  refine Go1.mk ?_;repeat' ((first|(with_reducible refine Go1.go ?_)|(refine And.intro ?_ ?_;(try simp only[sxO]at *);omega)|fail)<;>(try simp (maxSteps:=1000000) only [cE_ment,hasK_nil,cE_kill,cE_len,u32_one,u32_app1,u32_set,Nat.mul_one,meSt,meH,hv.one,hv.len,hv.sl,d1,d2,d3,d4,w1,w2,hlo,↓hold_pre,awayP,runOps,regK,step1,newK,genR,appR,obl,buildR,Value.cells,closeK,keepH,outV,retK,ret1,retC,RetV,Option.getD,runD,stepD,afterK,undef,simprocAttr,sxB,↓sxD,sxE,sxTab]))
  refine hK (o.set (i+b.length) c) (by simp[hlo]) (okN_set hoo hc) ?_ ?_
  ·have h1:=valN_set (l:=o) (i:=i+b.length) (v:=c) (by omega)
   rw[hrest (i+b.length) (by omega) (by omega) (Nat.le_refl _),hz,hval,take_all (Nat.le_refl _)]at h1
   simpa using h1
  ·intro j h h2 hj
   rw[List.getElem_set_ne (by omega)]
   exact hrest j (by simpa using h) h2 (by omega)
 have hyi:=hv.idx (P:=Try.prog) (T:=55) tk55 tz55 (by omega) hlt
 have hy:b[k]<4294967296:=okN_at hb hlt
 have hik:i+k<o.length:=by omega
 have ho0:o[i+k]<4294967296:=okN_at hoo hik
 have hat:=u32_at hik
 have hst:=mul_step (x:=x) (y:=b[k]) hik hval
 have hlt2:=mul_lt hx hy ho0 hc
 have hgy:b.getD k 0=b[k]:=by simp[List.getD,hlt]
 generalize b[k]=y at *
 generalize hz0:o[i+k]=z0 at *
 have hxy:=mul_le hx hy
 have d2:(0:Int)≤((i+k:Nat):Int):=by omega
 have d3:((i+k:Nat):Int)<(n:Int):=by omega
 have d4:(i+k<n)=True:=by simp;omega
 have w2:IntKind.u64.wrap (x:Int)=(x:Int):=wrap64_id (by omega)
 have w3:IntKind.u64.wrap (y:Int)=(y:Int):=wrap64_id (by omega)
 have w4:IntKind.u64.wrap ((x:Int)*(y:Int))=((x*y:Nat):Int):=by rw[←Int.natCast_mul,wrap64_id (by omega)]
 have w5:IntKind.u64.wrap (z0:Int)=(z0:Int):=wrap64_id (by omega)
 have w6:IntKind.u64.wrap (((x*y:Nat):Int)+(z0:Int))=((x*y+z0:Nat):Int):=by rw[←Int.natCast_add,wrap64_id (by omega)]
 have w7:IntKind.u64.wrap (((x*y+z0:Nat):Int)+(c:Int))=((x*y+z0+c:Nat):Int):=by rw[←Int.natCast_add,wrap64_id (by omega)]
 have w8:=wrap32 (x*y+z0+c)
 have w9:=shr32 (x*y+z0+c)
 refine Go1.mk ?_;repeat' ((first|(with_reducible refine Go1.go ?_)|(refine And.intro ?_ ?_;(try simp only[sxO]at *);omega)|fail)<;>(try simp (maxSteps:=1000000) only [cE_ment,hasK_nil,cE_kill,cE_len,u32_one,u32_app1,u32_set,Nat.mul_one,meSt,meH,u32V,hv.one,hv.len,hv.sl,hyi,hat,d2,d3,d4,w1,w2,w3,w4,w5,w6,w7,w8,w9,hlo,↓hold_pre,awayP,runOps,regK,step1,newK,genR,appR,obl,buildR,Value.cells,closeK,keepH,outV,retK,ret1,retC,RetV,Option.getD,runD,stepD,afterK,undef,simprocAttr,sxB,↓sxD,sxE,sxTab]))
 exact ⟨b.length-(k+1),meSt M v i x b.length (k+1) _ n _,by omega,le_sub ⟨rfl,rfl,rfl,rfl,rfl,rfl,rfl,rfl,trivial⟩ ⟨rfl,rfl,rfl,trivial⟩ rfl rfl rfl (by simp[keepLt,meSt,meH,lkH]),k+1,_,_,rfl,by omega,by rw[List.length_set];exact hlo,okN_set hoo (Nat.mod_lt _ (by decide)),by omega,by
  rw[take_val,hgy];exact hst,fun j h h2 hj=>by
   rw[List.getElem_set_ne (by omega)]
   exact hrest j (by simpa using h) h2 (by omega),rfl⟩
def mlSt(M:Mem)(u v:Value)(la n i:Nat)(out:List Nat):St:={env:=[(18,.ext (.int .i64 (i:Int))),(17,.ext (.int .i64 (la:Int))),(16,.ext u),(6,.fn 65 [.own 3 0,.own 5 0]),(5,.own 5 0)],hp:=meH v n out,M:=M,kb:=0,fx:=[]}
theorem mul_ok(u v:Value)(x y:Nat)(hu:IsL M u32V u (ofN x))(hv:IsL M u32V v (ofN y))(hx:(ofN x).length<100000000)(hy:(ofN y).length<100000000)(hK:NatK M K (x*y)):CallS Try.prog 48 [.ext u,.ext v] [] M [] K:=by
 refine CallS.frzF ?_
 refine inlS (cs:=[]) Try.mixed Try.func48 rfl (by kernel_rfl) 0 rfl rfl ?_
 simp only[Try.f48]
 generalize hl:(ofN x).length=la at *
 generalize hm:(ofN y).length=lb at *
 have w1:IntKind.i64.wrap ((la:Int)+(lb:Int))=((la+lb:Nat):Int):=by rw[wrap_id (by omega) (by omega)];omega
 have hvc:=isSl_cells hv.sl
 refine Go1.mk ?_;repeat' ((first|(with_reducible refine Go1.go ?_)|(refine And.intro ?_ ?_;(try simp only[sxO]at *);omega)|fail)<;>(try simp (maxSteps:=1000000) only [cE_ment,hasK_nil,cE_kill,cE_len,u32_one,u32_app1,u32_set,Nat.mul_one,hvc,hu.one,hv.one,hu.len,hu.sl,hl,hv.len,hv.sl,hm,w1,↓hold_pre,awayP,runOps,regK,step1,newK,genR,appR,obl,buildR,closeK,keepH,outV,retK,ret1,retC,RetV,Option.getD,runD,stepD,afterK,undef,simprocAttr,sxB,↓sxD,sxE,sxTab]))
 have hz0:List.map AV.ext (repN [Value.int .u32 0] (la+lb))=cE u32V (List.replicate (la+lb) 0):=cE_rep u32V (la+lb) 0
 refine ⟨fun d z=>∃i out,d=la-i∧i≤la∧out.length=la+lb∧okN out∧valN out=valN ((ofN x).take i)*y∧(∀j (h:j<out.length),i+lb≤j→out[j]=0)∧z=mlSt M u v la (la+lb) i out,
  ⟨la,mlSt M u v la (la+lb) 0 (List.replicate (la+lb) 0),le_sub ⟨rfl,rfl,rfl,rfl,rfl,trivial⟩ (by simp[subHp,mlSt,meH,lkH,hz0]) rfl rfl rfl (keepLt0 _),⟨0,_,rfl,by omega,by simp,okN_rep _,by rw[valN_rep];simp[valN],fun j h _=>by simp,rfl⟩⟩,?_⟩
 rintro d z ⟨i,out,rfl,hi,hlo,ho,hval,hzz,rfl⟩
 by_cases hlt:i<la
 case neg=>
  obtain rfl:i=la:=by omega
  have d1:decide ((i:Int)<(i:Int))=false:=by simp
  have d2:(i+lb≤out.length)=True:=by simp;omega
  rw[take_all (by omega),valN_ofN]at hval
  refine Go1.mk ?_;repeat' ((first|(with_reducible refine Go1.go ?_)|((with_reducible refine isCall (f:=66) ?_);refine callA ?_)|((with_reducible refine isCallS (f:=66) ?_);refine (trim_ok 14 (i+lb) out hlo (by omega) ho (fun m h1 h2=>?_)))|(refine And.intro ?_ ?_;(try simp only[sxO]at *);omega)|fail)<;>(try simp (maxSteps:=1000000) only [cE_ment,hasK_nil,cE_kill,cE_len,u32_one,u32_app1,u32_set,Nat.mul_one,mlSt,meH,hu.one,hv.one,hu.len,hu.sl,hl,d1,d2,hlo,↓hold_pre,awayP,runOps,regK,step1,newK,genR,appR,obl,buildR,Value.cells,closeK,keepH,outV,retK,ret1,retC,RetV,Option.getD,runD,stepD,afterK,undef,simprocAttr,sxB,↓sxD,sxE,sxTab]))
  rw[hval]at h2 ⊢
  refine Go1.mk ?_;repeat' ((first|(with_reducible refine Go1.go ?_)|(refine And.intro ?_ ?_;(try simp only[sxO]at *);omega)|fail)<;>(try simp (maxSteps:=1000000) only [cE_ment,hasK_nil,cE_kill,cE_len,u32_one,u32_app1,u32_set,Nat.mul_one,↓hold_pre,awayP,runOps,regK,step1,newK,genR,appR,obl,buildR,Value.cells,closeK,keepH,outV,retK,ret1,retC,RetV,Option.getD,runD,stepD,afterK,undef,simprocAttr,sxB,↓sxD,sxE,sxTab]))
  exact hK.frz h2
 have hil:i<(ofN x).length:=by omega
 have hxi:=hu.idx (P:=Try.prog) (T:=55) tk55 tz55 (by omega) hil
 rw[hl]at hxi
 have hx0:(ofN x)[i]<4294967296:=ofN_ok_at hil
 have hgx:(ofN x).getD i 0=(ofN x)[i]:=by simp[List.getD,hil]
 generalize (ofN x)[i]=a at *
 refine Go1.mk ?_;repeat' ((first|(with_reducible refine Go1.go ?_)|((with_reducible refine isCall (f:=65) ?_);refine callA ?_)|((with_reducible refine isCallS (f:=65) ?_);refine (each_ok v i a (la+lb) (ofN y) out hv (okN_ofN y) hx0 hlo (by omega) (by omega) ho (hzz _ _ (by omega)) (fun o' h1 h2 h3 h4=>?_)))|(refine And.intro ?_ ?_;(try simp only[sxO]at *);omega)|fail)<;>(try simp (maxSteps:=1000000) only [cE_ment,hasK_nil,cE_kill,cE_len,u32_one,u32_app1,u32_set,Nat.mul_one,mlSt,meH,u32V,hu.one,hv.one,hu.len,hu.sl,hl,hxi,hlo,↓hold_pre,awayP,runOps,regK,step1,newK,genR,appR,obl,buildR,Value.cells,closeK,keepH,outV,retK,ret1,retC,RetV,Option.getD,runD,stepD,afterK,undef,simprocAttr,sxB,↓sxD,sxE,sxTab]))
 refine Go1.mk ?_;repeat' ((first|(with_reducible refine Go1.go ?_)|(refine And.intro ?_ ?_;(try simp only[sxO]at *);omega)|fail)<;>(try simp (maxSteps:=1000000) only [cE_ment,hasK_nil,cE_kill,cE_len,u32_one,u32_app1,u32_set,Nat.mul_one,mlSt,meH,u32V,hu.one,hv.one,hu.len,hu.sl,hl,hxi,hlo,↓hold_pre,awayP,runOps,regK,step1,newK,genR,appR,obl,buildR,Value.cells,closeK,keepH,outV,retK,ret1,retC,RetV,Option.getD,runD,stepD,afterK,undef,simprocAttr,sxB,↓sxD,sxE,sxTab]))
 exact ⟨la-(i+1),mlSt M u v la (la+lb) (i+1) o',by omega,le_sub ⟨rfl,rfl,rfl,rfl,rfl,trivial⟩ ⟨rfl,rfl,rfl,trivial⟩ rfl rfl rfl (keepLt0 _),i+1,o',rfl,by omega,h1,h2,by
  rw[h3,hval,take_val,hgx,valN_ofN,Nat.add_mul,Nat.mul_assoc],fun j h hj=>by
  rw[h4 j h (by omega) (by omega)];exact hzz j (by omega) (by omega),rfl⟩
end
end Go.Proofs.Ytjapnklocibgaaa.Sx
