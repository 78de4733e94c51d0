/- Part 25 of the texts of this claim: a symbolic executor and contracts of functions. -/
import Derived.Test.YtjapnklocibgaaaOCiRCLimC
namespace Go.Proofs.Ytjapnklocibgaaa.Sx
open Go Go.RowKit
set_option linter.unusedVariables false
set_option linter.unusedSimpArgs false
set_option maxRecDepth 100000
set_option maxHeartbeats 8000000
attribute [local congr] fin_congr finG_congr stepG_congr step1_congr runOps_congr brv_congr obl_congr condK_congr LoopK_congr seqK_congr CutK_congr vc_congr DrawK_congr regK_congr CallK_congr AskK_congr newK_congr retC_congr ret1_congr retK_congr outV_congr closeK_congr genR_congr appR_congr finD_congr finGD_congr stepGD_congr stepD_congr CallK0_congr runD_congr okR_congr CallS_congr vcX_congr
attribute [local congr] Stop_congr
theorem drop_set_self{l:List Nat}{i v:Nat}(h:i<l.length):valN ((l.set i v).drop i)=v+4294967296*valN (l.drop (i+1)):=by
 rw[valN_drop (by simpa using h),List.getElem_set_self,List.drop_set_of_lt (by omega)]
theorem take_set_self{l:List Nat}{i v:Nat}(h:i<l.length):(l.set i v).take (i+1)=l.take i++[v]:=by
 rw[List.take_succ_eq_append_getElem (by simpa using h),List.getElem_set_self,List.take_set_of_le (by omega)]
theorem quo64{s d:Nat}(hs:s<18446744073709551616):IntKind.u64.wrap ((s:Int).tdiv (d:Int))=((s / d:Nat):Int):=by
 rw[←Int.ofNat_tdiv,wrap64_id (Nat.lt_of_le_of_lt (Nat.div_le_self s d) hs)]
theorem rem64(s d:Nat):(s:Int).tmod (d:Int)=((s % d:Nat):Int):=(Int.ofNat_tmod s d).symm
theorem shlN{a n:Nat}(ha:a<4294967296)(hn:n<32):IntKind.u64.wrap ((a:Int)*2^(min n IntKind.u64.bits))=((a*2^n:Nat):Int):=by
 have h1:min n IntKind.u64.bits=n:=by have:IntKind.u64.bits=64:=rfl;omega
 have h2:a*2^n≤a*2^31:=Nat.mul_le_mul_left a (Nat.pow_le_pow_right (by decide) (by omega))
 rw[h1,show ((a:Int)*2^n)=((a*2^n:Nat):Int) by simp,wrap64_id (by omega)]
theorem shrN(a:Nat){n:Nat}(hn:n<32):(a:Int).fdiv (2^(min n IntKind.u64.bits))=((a / 2^n:Nat):Int):=by
 have h1:min n IntKind.u64.bits=n:=by have:IntKind.u64.bits=64:=rfl;omega
 rw[h1,Int.fdiv_eq_ediv_of_nonneg _ (Int.pow_nonneg (by decide))]
 simp
theorem orN{a b n:Nat}(ha:a<4294967296)(hn:n<32)(hb:b<2^n):bits .or .u64 ((a*2^n:Nat):Int) (b:Int)=((a*2^n+b:Nat):Int):=by
 have h2:a*2^n≤a*2^31:=Nat.mul_le_mul_left a (Nat.pow_le_pow_right (by decide) (by omega))
 have h3:2^n≤2^31:=Nat.pow_le_pow_right (by decide) (by omega)
 rw[bits64_or (by omega) (by omega),or_add hb]
section
variable {M:Mem}{K:AV→Hp→Mem→Prop}
def smSt(M:Mem)(u:Value)(d:Nat)(la j r:Nat)(out:List Nat):St:={env:=[(8,.ext (.int .i64 ((j:Int)-1))),(7,.ext (.int .u64 (r:Int))),(6,.slo 12 0 la 1),(0,.ext u),(1,.ext (.int .u32 (d:Int)))],hp:=[(12,55,cE u32V out)],M:=M,kb:=0,fx:=[]}
theorem small_ok(u:Value)(x d:Nat)(hu:IsL M u32V u (ofN x))(hx:(ofN x).length<100000000)(hd:0<d)(hd2:d<4294967296)
  (hK:∀w M',Mem.le M M'→IsL M' u32V w (ofN (x / d))→FreshS M w→K (.ext (.tuple #[w,.int .u32 ((x % d:Nat):Int)])) [] M'):CallS Try.prog 82 [.ext u,.ext (.int .u32 (d:Int))] [] M [] K:=by
 refine CallS.frzF ?_
 refine inlS (cs:=[]) Try.mixed Try.func82 rfl (by kernel_rfl) 0 rfl rfl ?_
 simp only[Try.f82]
 generalize hl:(ofN x).length=la at *
 have w1:IntKind.i64.wrap ((la:Int)-1)=(la:Int)-1:=wrap_id (by omega) (by omega)
 refine Go1.mk ?_;repeat' ((first|(with_reducible refine Go1.go ?_)|(refine And.intro ?_ ?_;(try simp only[sxO]at *);omega)|fail)<;>(try simp (maxSteps:=1000000) only [cE_ment,hasK_nil,cE_kill,cE_len,u32_one,u32_app1,u32_set,Nat.mul_one,hu.one,hu.len,hu.sl,hl,w1,↓hold_pre,awayP,runOps,regK,step1,newK,genR,appR,obl,buildR,Value.cells,closeK,keepH,outV,retK,ret1,retC,RetV,Option.getD,runD,stepD,afterK,undef,simprocAttr,sxB,↓sxD,sxE,sxTab]))
 have hz0:List.map AV.ext (repN [Value.int .u32 0] la)=cE u32V (List.replicate la 0):=cE_rep u32V la 0
 refine ⟨fun m z=>∃j r out,j=m∧j≤la∧out.length=la∧okN out∧r<d∧valN ((ofN x).drop j)=d*valN (out.drop j)+r∧z=smSt M u d la j r out,
  ⟨la,smSt M u d la la 0 (List.replicate la 0),le_sub ⟨rfl,rfl,rfl,rfl,rfl,trivial⟩ (by simp[subHp,smSt,lkH,hz0]) rfl rfl rfl (keepLt0 _),⟨la,0,_,rfl,by omega,by simp,okN_rep _,hd,by rw[List.drop_of_length_le (by omega),List.drop_of_length_le (by simp)];simp[valN],rfl⟩⟩,?_⟩
 rintro m z ⟨j,r,out,rfl,hj,hlo,ho,hr,hval,rfl⟩
 have w2:IntKind.u32.wrap (r:Int)=(r:Int):=wrap32_id (by omega)
 by_cases hlt:0<j
 case neg=>
  obtain rfl:j=0:=by omega
  have d1:decide ((0:Int)≤((0:Nat):Int)-1)=false:=by simp
  rw[List.drop_zero,List.drop_zero,valN_ofN]at hval
  have e1:valN out=x / d:=by
   rw[hval,Nat.mul_add_div hd,Nat.div_eq_of_lt hr,Nat.add_zero]
  have e2:x % d=r:=by rw[hval,Nat.mul_add_mod,Nat.mod_eq_of_lt hr]
  rw[e2]at hK
  refine Go1.mk ?_;repeat' ((first|(with_reducible refine Go1.go ?_)|((with_reducible refine isCall (f:=66) ?_);refine callA ?_)|((with_reducible refine isCallS (f:=66) ?_);refine (trim_ok 12 la out hlo (by omega) ho (fun m h1 h2=>?_)))|(refine And.intro ?_ ?_;(try simp only[sxO]at *);omega)|fail)<;>(try simp (maxSteps:=1000000) only [cE_ment,hasK_nil,cE_kill,cE_len,u32_one,u32_app1,u32_set,Nat.mul_one,smSt,hu.one,hu.len,hu.sl,hl,d1,w2,hlo,↓hold_pre,awayP,runOps,regK,step1,newK,genR,appR,obl,buildR,Value.cells,closeK,keepH,outV,retK,ret1,retC,RetV,Option.getD,runD,stepD,afterK,undef,simprocAttr,sxB,↓sxD,sxE,sxTab]))
  rw[e1]at h2 ⊢
  refine Go1.mk ?_;repeat' ((first|(with_reducible refine Go1.go ?_)|(refine And.intro ?_ ?_;(try simp only[sxO]at *);omega)|fail)<;>(try simp (maxSteps:=1000000) only [cE_ment,hasK_nil,cE_kill,cE_len,u32_one,u32_app1,u32_set,Nat.mul_one,w2,↓hold_pre,awayP,runOps,regK,step1,newK,genR,appR,obl,buildR,Value.cells,closeK,keepH,outV,retK,ret1,retC,RetV,Option.getD,runD,stepD,afterK,undef,simprocAttr,sxB,↓sxD,sxE,sxTab]))
  subst h2
  exact FrzF.tup [] [.int .u32 (r:Int)] ((ofN (x / d)).map u32V) rfl (by simp) (fun w M' h1 h2 h3=>hK w M' h1 h2 h3)
 obtain ⟨i,rfl⟩:∃i,j=i+1:=⟨j-1,by omega⟩
 have ej:(((i+1:Nat):Int)-1)=(i:Int):=by omega
 have hil:i<(ofN x).length:=by omega
 have hxi:=hu.idx (P:=Try.prog) (T:=55) tk55 tz55 (by omega) hil
 rw[hl]at hxi
 have hx0:(ofN x)[i]<4294967296:=ofN_ok_at hil
 have hdr:=valN_drop hil
 generalize (ofN x)[i]=a at *
 have d1:decide ((0:Int)≤(i:Int))=true:=by simp
 have d2:(i<la)=True:=by simp;omega
 have w3:IntKind.u64.wrap (a:Int)=(a:Int):=wrap64_id (by omega)
 have w4:=shl32 (a:=r) (by omega)
 have w5:=or32 (a:=r) (b:=a) (by omega) hx0
 have w6:IntKind.u64.wrap (d:Int)=(d:Int):=wrap64_id (by omega)
 have w7:=quo64 (s:=r*4294967296+a) (d:=d) (by omega)
 have w8:=rem64 (r*4294967296+a) d
 have hq:=small_lt hr hx0
 have w9:=wrap32_id hq
 have w10:IntKind.i64.wrap ((i:Int)-1)=(i:Int)-1:=wrap_id (by omega) (by omega)
 refine Go1.mk ?_;repeat' ((first|(with_reducible refine Go1.go ?_)|(refine And.intro ?_ ?_;(try simp only[sxO]at *);omega)|fail)<;>(try simp (maxSteps:=1000000) only [cE_ment,hasK_nil,cE_kill,cE_len,u32_one,u32_app1,u32_set,Nat.mul_one,smSt,u32V,ej,hu.one,hu.len,hu.sl,hl,hxi,d1,d2,w3,w4,w5,w6,w7,w8,w9,w10,hlo,↓hold_pre,awayP,runOps,regK,step1,newK,genR,appR,obl,buildR,Value.cells,closeK,keepH,outV,retK,ret1,retC,RetV,Option.getD,runD,stepD,afterK,undef,simprocAttr,sxB,↓sxD,sxE,sxTab]))
 exact ⟨i,smSt M u d la i _ _,by omega,le_sub ⟨rfl,rfl,rfl,rfl,rfl,trivial⟩ ⟨rfl,trivial⟩ rfl rfl rfl (keepLt0 _),i,_,_,rfl,by omega,by rw[List.length_set];exact hlo,okN_set ho hq,Nat.mod_lt _ hd,by
  rw[hdr,drop_set_self (by omega)];exact small_step hd hval,rfl⟩
def shSt(M:Mem)(u:Value)(n la i c kb:Nat)(out:List Nat):St:={env:=[(16,.ext (.int .i64 (i:Int))),(15,.ext (.int .i64 (la:Int))),(14,.ext u),(6,.ext (.int .u64 (c:Int))),(5,.slo (kb+13) 0 (la+1) 1),(0,.ext u),(1,.ext (.int .i64 (n:Int)))],hp:=[(kb+13,55,cE u32V out)],M:=M,kb:=kb,fx:=[]}
theorem shift_ok(kb:Nat)(u:Value)(l:List Nat)(n:Nat)(hu:IsL M u32V u l)(hx:l.length<100000000)(hol:okN l)(hn:n<32)
  (hK:∀out,out.length=l.length+1→okN out→valN out=valN l*2^n→K (.slo (kb+13) 0 (l.length+1) 1) [(kb+13,55,cE u32V out)] M):CallS Try.prog 85 [.ext u,.ext (.int .i64 (n:Int))] [] M [] K:=by
 refine inlS (cs:=[]) Try.mixed Try.func85 rfl (by kernel_rfl) kb rfl rfl ?_
 simp only[Try.f85]
 generalize hl:l.length=la at *
 have w1:IntKind.i64.wrap ((la:Int)+1)=((la+1:Nat):Int):=succ_i (by omega)
 refine Go1.mk ?_;repeat' ((first|(with_reducible refine Go1.go ?_)|(refine And.intro ?_ ?_;(try simp only[sxO]at *);omega)|fail)<;>(try simp (maxSteps:=1000000) only [cE_ment,hasK_nil,cE_kill,cE_len,u32_one,u32_app1,u32_set,Nat.mul_one,hu.one,hu.len,hu.sl,hl,w1,↓hold_pre,awayP,runOps,regK,step1,newK,genR,appR,obl,buildR,Value.cells,closeK,keepH,outV,retK,ret1,retC,RetV,Option.getD,runD,stepD,afterK,undef,simprocAttr,sxB,↓sxD,sxE,sxTab]))
 have hz0:AV.ext (Value.int .u32 0) :: List.map AV.ext (repN [Value.int .u32 0] la)=cE u32V (List.replicate (la+1) 0):=cE_rep u32V (la+1) 0
 have k1:keepLt kb (shSt M u n la 0 0 kb (List.replicate (la+1) 0)).hp [(kb+13,55,cE u32V (List.replicate (la+1) 0))]:=⟨.inl (by omega),trivial⟩
 refine ⟨fun d z=>∃i c out,d=la-i∧i≤la∧out.length=la+1∧okN out∧c<2^n∧valN (out.take i)+wN i*c=valN (l.take i)*2^n∧z=shSt M u n la i c kb out,
  ⟨la,shSt M u n la 0 0 kb (List.replicate (la+1) 0),le_sub ⟨rfl,rfl,rfl,rfl,rfl,rfl,rfl,trivial⟩ (by simp[subHp,shSt,lkH,hz0]) rfl rfl rfl (by rw[hz0];exact k1),⟨0,0,_,rfl,by omega,by simp,okN_rep _,Nat.two_pow_pos n,by simp[valN],rfl⟩⟩,?_⟩
 rintro d z ⟨i,c,out,rfl,hi,hlo,ho,hc,hval,rfl⟩
 have hp2:(2:Nat)^n≤2^31:=Nat.pow_le_pow_right (by decide) (by omega)
 have w2:IntKind.u32.wrap (c:Int)=(c:Int):=wrap32_id (by omega)
 by_cases hlt:i<la
 case neg=>
  obtain rfl:i=la:=by omega
  have d1:decide ((i:Int)<(i:Int))=false:=by simp
  have d2:(i<i+1)=True:=by simp
  refine Go1.mk ?_;repeat' ((first|(with_reducible refine Go1.go ?_)|(refine And.intro ?_ ?_;(try simp only[sxO]at *);omega)|fail)<;>(try simp (maxSteps:=1000000) only [cE_ment,hasK_nil,cE_kill,cE_len,u32_one,u32_app1,u32_set,Nat.mul_one,shSt,hu.one,hu.len,hu.sl,hl,d1,d2,w2,hlo,↓hold_pre,awayP,runOps,regK,step1,newK,genR,appR,obl,buildR,Value.cells,closeK,keepH,outV,retK,ret1,retC,RetV,Option.getD,runD,stepD,afterK,undef,simprocAttr,sxB,↓sxD,sxE,sxTab]))
  refine hK _ (by rw[List.length_set];exact hlo) (okN_set ho (by omega)) ?_
  have h1:=take_set_self (l:=out) (i:=i) (v:=c) (by omega)
  rw[List.take_of_length_le (by simp;omega)]at h1
  rw[h1,valN_snoc,List.length_take,Nat.min_eq_left (by omega),hval,take_all (by omega)]
 have hil:i<l.length:=by omega
 have hxi:=hu.idx (P:=Try.prog) (T:=55) tk55 tz55 (by omega) hil
 rw[hl]at hxi
 have hx0:l[i]<4294967296:=okN_at hol hil
 have hgx:l.getD i 0=l[i]:=by simp[List.getD,hil]
 generalize l[i]=a at *
 have d2:(i<la+1)=True:=by simp;omega
 have w3:IntKind.u64.wrap (a:Int)=(a:Int):=wrap64_id (by omega)
 have w4:=shlN hx0 hn
 have w5:=orN hx0 hn hc
 have w6:=wrap32 (a*2^n+c)
 have w7:=shr32 (a*2^n+c)
 have hw:(out.take i).length=i:=by rw[List.length_take];omega
 have st:=shl_step (out:=out.take i) (x:=a) (p2:=2^n) (by rw[hw];exact hval)
 rw[hw]at st
 refine Go1.mk ?_;repeat' ((first|(with_reducible refine Go1.go ?_)|(refine And.intro ?_ ?_;(try simp only[sxO]at *);omega)|fail)<;>(try simp (maxSteps:=1000000) only [cE_ment,hasK_nil,cE_kill,cE_len,u32_one,u32_app1,u32_set,Nat.mul_one,shSt,u32V,hu.one,hu.len,hu.sl,hl,hxi,d2,w3,w4,w5,w6,w7,hlo,↓hold_pre,awayP,runOps,regK,step1,newK,genR,appR,obl,buildR,Value.cells,closeK,keepH,outV,retK,ret1,retC,RetV,Option.getD,runD,stepD,afterK,undef,simprocAttr,sxB,↓sxD,sxE,sxTab]))
 exact ⟨la-(i+1),shSt M u n la (i+1) _ kb _,by omega,le_sub ⟨rfl,rfl,rfl,rfl,rfl,rfl,rfl,trivial⟩ (by simp[subHp,shSt,lkH];rfl) rfl rfl rfl ⟨.inl (Nat.le_add_right _ _),trivial⟩,i+1,_,_,rfl,by omega,by rw[List.length_set];exact hlo,okN_set ho (Nat.mod_lt _ (by decide)),shl_carry hx0 hc,by
  rw[take_set_self (by omega),take_val,hgx];exact st,rfl⟩
def usSt(M:Mem)(u:Value)(n la i:Nat)(out:List Nat):St:={env:=[(14,.ext (.int .i64 (i:Int))),(13,.ext (.int .i64 (la:Int))),(12,.ext u),(5,.slo 11 0 la 1),(0,.ext u),(1,.ext (.int .i64 (n:Int)))],hp:=[(11,55,cE u32V out)],M:=M,kb:=0,fx:=[]}
theorem unshift_ok(u:Value)(l:List Nat)(n:Nat)(hu:IsL M u32V u l)(hx:l.length<100000000)(hol:okN l)(hn:n<32)(hK:NatK M K (valN l / 2^n)):CallS Try.prog 88 [.ext u,.ext (.int .i64 (n:Int))] [] M [] K:=by
 refine CallS.frzF ?_
 refine inlS (cs:=[]) Try.mixed Try.func88 rfl (by kernel_rfl) 0 rfl rfl ?_
 simp only[Try.f88]
 generalize hl:l.length=la at *
 refine Go1.mk ?_;repeat' ((first|(with_reducible refine Go1.go ?_)|(refine And.intro ?_ ?_;(try simp only[sxO]at *);omega)|fail)<;>(try simp (maxSteps:=1000000) only [cE_ment,hasK_nil,cE_kill,cE_len,u32_one,u32_app1,u32_set,Nat.mul_one,hu.one,hu.len,hu.sl,hl,↓hold_pre,awayP,runOps,regK,step1,newK,genR,appR,obl,buildR,Value.cells,closeK,keepH,outV,retK,ret1,retC,RetV,Option.getD,runD,stepD,afterK,undef,simprocAttr,sxB,↓sxD,sxE,sxTab]))
 have hz0:List.map AV.ext (repN [Value.int .u32 0] la)=cE u32V (List.replicate la 0):=cE_rep u32V la 0
 refine ⟨fun d z=>∃i out,d=la-i∧i≤la∧out.length=la∧okN out∧valN (out.take i)=valN l / 2^n % wN i∧z=usSt M u n la i out,
  ⟨la,usSt M u n la 0 (List.replicate la 0),le_sub ⟨rfl,rfl,rfl,rfl,rfl,rfl,trivial⟩ (by simp[subHp,usSt,lkH,hz0]) rfl rfl rfl (keepLt0 _),⟨0,_,rfl,by omega,by simp,okN_rep _,by simp[valN,wN,Nat.mod_one],rfl⟩⟩,?_⟩
 rintro d z ⟨i,out,rfl,hi,hlo,ho,hval,rfl⟩
 by_cases hlt:i<la
 case neg=>
  obtain rfl:i=la:=by omega
  have d1:decide ((i:Int)<(i:Int))=false:=by simp
  have e1:valN out=valN l / 2^n:=by
   rw[take_all (by omega)]at hval
   rw[hval]
   refine Nat.mod_eq_of_lt (Nat.lt_of_le_of_lt (Nat.div_le_self _ _) ?_)
   rw[←hl];exact valN_lt hol
  refine Go1.mk ?_;repeat' ((first|(with_reducible refine Go1.go ?_)|((with_reducible refine isCall (f:=66) ?_);refine callA ?_)|((with_reducible refine isCallS (f:=66) ?_);refine (trim_ok 11 i out hlo (by omega) ho (fun m h1 h2=>?_)))|(refine And.intro ?_ ?_;(try simp only[sxO]at *);omega)|fail)<;>(try simp (maxSteps:=1000000) only [cE_ment,hasK_nil,cE_kill,cE_len,u32_one,u32_app1,u32_set,Nat.mul_one,usSt,hu.one,hu.len,hu.sl,hl,d1,hlo,↓hold_pre,awayP,runOps,regK,step1,newK,genR,appR,obl,buildR,Value.cells,closeK,keepH,outV,retK,ret1,retC,RetV,Option.getD,runD,stepD,afterK,undef,simprocAttr,sxB,↓sxD,sxE,sxTab]))
  rw[e1]at h2 ⊢
  refine Go1.mk ?_;repeat' ((first|(with_reducible refine Go1.go ?_)|(refine And.intro ?_ ?_;(try simp only[sxO]at *);omega)|fail)<;>(try simp (maxSteps:=1000000) only [cE_ment,hasK_nil,cE_kill,cE_len,u32_one,u32_app1,u32_set,Nat.mul_one,↓hold_pre,awayP,runOps,regK,step1,newK,genR,appR,obl,buildR,Value.cells,closeK,keepH,outV,retK,ret1,retC,RetV,Option.getD,runD,stepD,afterK,undef,simprocAttr,sxB,↓sxD,sxE,sxTab]))
  exact hK.frz h2
 have hil:i<l.length:=by omega
 have hxi:=hu.idx (P:=Try.prog) (T:=55) tk55 tz55 (by omega) hil
 rw[hl]at hxi
 have hx0:l[i]<4294967296:=okN_at hol hil
 have hdr:=valN_drop hil
 have hdv:=valN_drop_div hol (i:=i) (by omega)
 have hwd:=wN_div (valN l) i (n:=n)
 have d2:(i<la)=True:=by simp;omega
 have w3:IntKind.u64.wrap (l[i]:Int)=(l[i]:Int):=wrap64_id (by omega)
 have w4:IntKind.i64.wrap ((i:Int)+1)=((i+1:Nat):Int):=succ_i (by omega)
 by_cases hy:i+1<la
 ·have hil2:i+1<l.length:=by omega
  have hyi:=hu.idx (P:=Try.prog) (T:=55) tk55 tz55 (by omega) hil2
  rw[hl]at hyi
  have hy0:l[i+1]<4294967296:=okN_at hol hil2
  have hdr2:=valN_drop hil2
  generalize l[i+1]=b at *
  generalize l[i]=a at *
  have w5:IntKind.u64.wrap (b:Int)=(b:Int):=wrap64_id (by omega)
  have w6:=shl32 hy0
  have w7:bits .or .u64 (a:Int) ((b*4294967296:Nat):Int)=((b*4294967296+a:Nat):Int):=by
   rw[bits64_or (by omega) (by omega),Nat.or_comm,show (4294967296:Nat)=2^32 by decide,or_add (by omega)]
  have w8:=shrN (b*4294967296+a) hn
  have w9:=wrap32 ((b*4294967296+a) / 2^n)
  have hdig:valN l / wN i / 2^n % 4294967296=(b*4294967296+a) / 2^n % 4294967296:=by
   rw[←hdv,hdr,hdr2,shr_digit hn,Nat.add_comm,Nat.mul_comm 4294967296 b]
  refine Go1.mk ?_;repeat' ((first|(with_reducible refine Go1.go ?_)|(refine And.intro ?_ ?_;(try simp only[sxO]at *);omega)|fail)<;>(try simp (maxSteps:=1000000) only [cE_ment,hasK_nil,cE_kill,cE_len,u32_one,u32_app1,u32_set,Nat.mul_one,usSt,u32V,hu.one,hu.len,hu.sl,hl,hxi,hyi,d2,w3,w4,w5,w6,w7,w8,w9,hlo,↓hold_pre,awayP,runOps,regK,step1,newK,genR,appR,obl,buildR,Value.cells,closeK,keepH,outV,retK,ret1,retC,RetV,Option.getD,runD,stepD,afterK,undef,simprocAttr,sxB,↓sxD,sxE,sxTab]))
  exact ⟨la-(i+1),usSt M u n la (i+1) _,by omega,le_sub ⟨rfl,rfl,rfl,rfl,rfl,rfl,trivial⟩ ⟨rfl,trivial⟩ rfl rfl rfl (keepLt0 _),i+1,_,rfl,by omega,by rw[List.length_set];exact hlo,okN_set ho (Nat.mod_lt _ (by decide)),by
   rw[take_set_self (by omega),valN_snoc,List.length_take,Nat.min_eq_left (by omega),hval,hwd,hdig],rfl⟩
 ·have d3:decide (((i+1:Nat):Int)<(la:Int))=false:=by simp;omega
  have hdr2:l.drop (i+1)=[]:=List.drop_of_length_le (by omega)
  generalize l[i]=a at *
  have w8:=shrN a hn
  have w9:=wrap32 (a / 2^n)
  have hdig:valN l / wN i / 2^n % 4294967296=a / 2^n % 4294967296:=by
   rw[←hdv,hdr,hdr2];simp[valN]
  refine Go1.mk ?_;repeat' ((first|(with_reducible refine Go1.go ?_)|(refine And.intro ?_ ?_;(try simp only[sxO]at *);omega)|fail)<;>(try simp (maxSteps:=1000000) only [cE_ment,hasK_nil,cE_kill,cE_len,u32_one,u32_app1,u32_set,Nat.mul_one,usSt,u32V,hu.one,hu.len,hu.sl,hl,hxi,d2,d3,w3,w4,w8,w9,hlo,↓hold_pre,awayP,runOps,regK,step1,newK,genR,appR,obl,buildR,Value.cells,closeK,keepH,outV,retK,ret1,retC,RetV,Option.getD,runD,stepD,afterK,undef,simprocAttr,sxB,↓sxD,sxE,sxTab]))
  exact ⟨la-(i+1),usSt M u n la (i+1) _,by omega,le_sub ⟨rfl,rfl,rfl,rfl,rfl,rfl,trivial⟩ ⟨rfl,trivial⟩ rfl rfl rfl (keepLt0 _),i+1,_,rfl,by omega,by rw[List.length_set];exact hlo,okN_set ho (Nat.mod_lt _ (by decide)),by
   rw[take_set_self (by omega),valN_snoc,List.length_take,Nat.min_eq_left (by omega),hval,hwd,hdig],rfl⟩
end
end Go.Proofs.Ytjapnklocibgaaa.Sx
