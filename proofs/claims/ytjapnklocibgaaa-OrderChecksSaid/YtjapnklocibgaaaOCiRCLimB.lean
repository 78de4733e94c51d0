/- Part 23 of the texts of this claim: a symbolic executor and contracts of functions. -/
import Derived.Test.YtjapnklocibgaaaOCiRCLimA
namespace Go.Proofs.Ytjapnklocibgaaa.Sx
open Go Go.RowKit
set_option linter.unusedVariables false
set_option linter.unusedSimpArgs false
set_option maxRecDepth 100000
set_option maxHeartbeats 8000000
attribute [local congr] fin_congr finG_congr stepG_congr step1_congr runOps_congr brv_congr obl_congr condK_congr LoopK_congr seqK_congr CutK_congr vc_congr DrawK_congr regK_congr CallK_congr AskK_congr newK_congr retC_congr ret1_congr retK_congr outV_congr closeK_congr genR_congr appR_congr finD_congr finGD_congr stepGD_congr stepD_congr CallK0_congr runD_congr okR_congr CallS_congr vcX_congr
attribute [local congr] Stop_congr
section
variable {M:Mem}{K:AV→Hp→Mem→Prop}
def NatK(M:Mem)(K:AV→Hp→Mem→Prop)(n:Nat):Prop:=∀w M',Mem.le M M'→IsL M' u32V w (ofN n)→FreshS M w→K (.ext w) [] M'
theorem NatK.frz{n m k:Nat}(h:NatK M K n)(hm:m=(ofN n).length):FrzF K [] (.slo k 0 m 1) [(k,55,cE u32V (ofN n))] M:=by
 subst hm
 exact FrzF.one ((ofN n).map u32V) rfl (by simp) fun w M' h1 h2 h3=>h w M' h1 h2 h3
theorem val2(n:Nat):valN [n % 4294967296,n / 4294967296]=n:=by simp only[valN];omega
theorem of_ok(n:Nat)(hn:n<18446744073709551616)(hK:NatK M K n):CallS Try.prog 83 [.ext (.int .u64 (n:Int))] [] M [] K:=by
 refine CallS.frzF ?_
 refine inlS (cs:=[]) Try.mixed Try.func83 rfl (by kernel_rfl) 0 rfl rfl ?_
 simp only[Try.f83]
 have w1:=wrap32 n
 have w2:=shr32 n
 have w3:IntKind.u32.wrap ((n / 4294967296:Nat):Int)=((n / 4294967296:Nat):Int):=wrap32_id (by omega)
 have c1:[AV.ext (.int .u32 ((n % 4294967296:Nat):Int)),AV.ext (.int .u32 ((n / 4294967296:Nat):Int))]=cE u32V [n % 4294967296,n / 4294967296]:=rfl
 have ho:okN [n % 4294967296,n / 4294967296]:=okN_cons.2 ⟨by omega,okN_one (by omega)⟩
 have hv:=val2 n
 (try with_reducible refine Fz.of ?_);refine Go1.mk ?_;repeat' ((first|(with_reducible refine Go1.go ?_)|((with_reducible refine isCall (f:=66) ?_);refine callA ?_)|((with_reducible refine isCallS (f:=66) ?_);refine (trim_ok 8 2 [n % 4294967296,n / 4294967296] rfl (by decide) ho (fun m h1 h2=>?_)))|(refine And.intro ?_ ?_;(try simp only[sxO]at *);omega)|fail)<;>(try simp (maxSteps:=1000000) only [cE_ment,hasK_nil,cE_kill,cE_len,u32_one,u32_app1,u32_set,Nat.mul_one,w1,w2,w3,c1,↓hold_pre,awayP,runOps,regK,step1,newK,genR,appR,obl,buildR,Value.cells,closeK,keepH,outV,retK,ret1,retC,RetV,Option.getD,runD,stepD,afterK,undef,simprocAttr,sxB,↓sxD,sxE,sxTab]))
 rw[hv]at h2 ⊢
 (try with_reducible refine Fz.of ?_);refine Go1.mk ?_;repeat' ((first|(with_reducible refine Go1.go ?_)|(refine And.intro ?_ ?_;(try simp only[sxO]at *);omega)|fail)<;>(try simp (maxSteps:=1000000) only [cE_ment,hasK_nil,cE_kill,cE_len,u32_one,u32_app1,u32_set,Nat.mul_one,↓hold_pre,awayP,runOps,regK,step1,newK,genR,appR,obl,buildR,Value.cells,closeK,keepH,outV,retK,ret1,retC,RetV,Option.getD,runD,stepD,afterK,undef,simprocAttr,sxB,↓sxD,sxE,sxTab]))
 exact hK.frz h2
def ad0(M:Mem)(u v:Value):St:={env:=[(0,.ext u),(1,.ext v)],hp:=[],M:=M,kb:=0,fx:=[]}
def adSt(M:Mem)(u v:Value)(la i c:Nat)(out:List Nat):St:={env:=[(23,.ext (.int .i64 (i:Int))),(22,.ext (.int .i64 (la:Int))),(21,.ext u),(6,.ext (.int .u64 (c:Int))),(5,.slo 20 0 i 1),(1,.ext v)],hp:=[(20,55,cE u32V out)],M:=M,kb:=0,fx:=[]}
theorem ofN_ok_at{n i:Nat}(h:i<(ofN n).length):(ofN n)[i]<4294967296:=okN_at (okN_ofN n) h
theorem add_ok(u v:Value)(x y:Nat)(hu:IsL M u32V u (ofN x))(hv:IsL M u32V v (ofN y))(hx:(ofN x).length<100000000)(hy:(ofN y).length<100000000)(hK:NatK M K (x+y)):CallS Try.prog 61 [.ext u,.ext v] [] M [] K:=by
 refine CallS.frzF ?_
 refine inlS (cs:=[3]) Try.mixed Try.func61 rfl (by kernel_rfl) 0 rfl rfl ?_
 simp only[Try.f61]
 (try with_reducible refine Fz.of ?_);refine Go1.mk ?_;repeat' ((first|(with_reducible refine Go1.go ?_)|(refine And.intro ?_ ?_;(try simp only[sxO]at *);omega)|fail)<;>(try simp (maxSteps:=1000000) only [cE_ment,hasK_nil,cE_kill,cE_len,u32_one,u32_app1,u32_set,Nat.mul_one,hu.one,hv.one,↓hold_pre,awayP,runOps,regK,step1,newK,genR,appR,obl,buildR,Value.cells,closeK,keepH,outV,retK,ret1,retC,RetV,Option.getD,runD,stepD,afterK,undef,simprocAttr,sxB,↓sxD,sxE,sxTab]))
 refine ⟨fun z=>∃u' v' x' y',IsL M u32V u' (ofN x')∧IsL M u32V v' (ofN y')∧(ofN x').length<100000000∧(ofN y').length≤(ofN x').length∧x'+y'=x+y∧z=ad0 M u' v',?_,?_⟩
 ·by_cases hlt:(ofN x).length<(ofN y).length
  ·have d1:decide (((ofN x).length:Int)<((ofN y).length:Int))=true:=by simp;omega
   (try with_reducible refine Fz.of ?_);refine Go1.mk ?_;repeat' ((first|(with_reducible refine Go1.go ?_)|(refine And.intro ?_ ?_;(try simp only[sxO]at *);omega)|fail)<;>(try simp (maxSteps:=1000000) only [cE_ment,hasK_nil,cE_kill,cE_len,u32_one,u32_app1,u32_set,Nat.mul_one,hu.one,hv.one,hu.len,hv.len,hu.sl,hv.sl,d1,↓hold_pre,awayP,runOps,regK,step1,newK,genR,appR,obl,buildR,Value.cells,closeK,keepH,outV,retK,ret1,retC,RetV,Option.getD,runD,stepD,afterK,undef,simprocAttr,sxB,↓sxD,sxE,sxTab]))
   exact ⟨ad0 M v u,le_sub ⟨rfl,rfl,trivial⟩ trivial rfl rfl rfl (keepLt0 _),v,u,y,x,hv,hu,hy,by omega,by omega,rfl⟩
  ·have d1:decide (((ofN x).length:Int)<((ofN y).length:Int))=false:=by simp;omega
   (try with_reducible refine Fz.of ?_);refine Go1.mk ?_;repeat' ((first|(with_reducible refine Go1.go ?_)|(refine And.intro ?_ ?_;(try simp only[sxO]at *);omega)|fail)<;>(try simp (maxSteps:=1000000) only [cE_ment,hasK_nil,cE_kill,cE_len,u32_one,u32_app1,u32_set,Nat.mul_one,hu.one,hv.one,hu.len,hv.len,hu.sl,hv.sl,d1,↓hold_pre,awayP,runOps,regK,step1,newK,genR,appR,obl,buildR,Value.cells,closeK,keepH,outV,retK,ret1,retC,RetV,Option.getD,runD,stepD,afterK,undef,simprocAttr,sxB,↓sxD,sxE,sxTab]))
   exact ⟨ad0 M u v,le_sub ⟨rfl,rfl,trivial⟩ trivial rfl rfl rfl (keepLt0 _),u,v,x,y,hu,hv,hx,by omega,rfl,rfl⟩
 clear hu hv hx hy
 rintro z ⟨u,v,x',y',hu,hv,hx,hyx,hxy,rfl⟩
 rw[←hxy]at hK
 clear hxy x y
 generalize hl:(ofN x').length=la at *
 have w1:IntKind.i64.wrap ((la:Int)+1)=((la+1:Nat):Int):=succ_i (by omega)
 (try with_reducible refine Fz.of ?_);refine Go1.mk ?_;repeat' ((first|(with_reducible refine Go1.go ?_)|(refine And.intro ?_ ?_;(try simp only[sxO]at *);omega)|fail)<;>(try simp (maxSteps:=1000000) only [cE_ment,hasK_nil,cE_kill,cE_len,u32_one,u32_app1,u32_set,Nat.mul_one,ad0,hu.one,hv.one,hu.len,hu.sl,hl,w1,↓hold_pre,awayP,runOps,regK,step1,newK,genR,appR,obl,buildR,Value.cells,closeK,keepH,outV,retK,ret1,retC,RetV,Option.getD,runD,stepD,afterK,undef,simprocAttr,sxB,↓sxD,sxE,sxTab]))
 refine ⟨fun d z=>∃i c out,d=la-i∧i≤la∧out.length=i∧okN out∧c≤1∧valN out+wN out.length*c=valN ((ofN x').take i)+valN ((ofN y').take i)∧z=adSt M u v la i c out,
  ⟨la,adSt M u v la 0 0 [],(le_take 20 0 55 _ rfl).trans (le_sub ⟨rfl,rfl,rfl,rfl,rfl,rfl,trivial⟩ ⟨rfl,trivial⟩ rfl rfl rfl (keepLt0 _)),⟨0,0,[],rfl,by omega,rfl,by simp[okN],by omega,by simp[valN],rfl⟩⟩,?_⟩
 rintro d z ⟨i,c,out,rfl,hi,hlo,ho,hc,hval,rfl⟩
 by_cases hlt:i<la
 case neg=>
  obtain rfl:i=la:=by omega
  have d1:decide ((i:Int)<(i:Int))=false:=by simp
  have w2:IntKind.u32.wrap (c:Int)=(c:Int):=wrap32_id (by omega)
  have hv2:valN (out++[c])=x'+y':=by
   rw[valN_snoc,hval,take_all (by omega),take_all hyx,valN_ofN,valN_ofN]
  have hlo2:(out++[c]).length=i+1:=by simp[hlo]
  (try with_reducible refine Fz.of ?_);refine Go1.mk ?_;repeat' ((first|(with_reducible refine Go1.go ?_)|((with_reducible refine isCall (f:=66) ?_);refine callA ?_)|((with_reducible refine isCallS (f:=66) ?_);refine (trim_ok 20 (i+1) (out++[c]) hlo2 (by omega) (okN_app.2 ⟨ho,okN_one (by omega)⟩) (fun m h1 h2=>?_)))|(refine And.intro ?_ ?_;(try simp only[sxO]at *);omega)|fail)<;>(try simp (maxSteps:=1000000) only [cE_ment,hasK_nil,cE_kill,cE_len,u32_one,u32_app1,u32_set,Nat.mul_one,adSt,hu.one,hv.one,hu.len,hu.sl,hl,d1,w2,hlo,↓hold_pre,awayP,runOps,regK,step1,newK,genR,appR,obl,buildR,Value.cells,closeK,keepH,outV,retK,ret1,retC,RetV,Option.getD,runD,stepD,afterK,undef,simprocAttr,sxB,↓sxD,sxE,sxTab]))
  rw[hv2]at h2 ⊢
  (try with_reducible refine Fz.of ?_);refine Go1.mk ?_;repeat' ((first|(with_reducible refine Go1.go ?_)|(refine And.intro ?_ ?_;(try simp only[sxO]at *);omega)|fail)<;>(try simp (maxSteps:=1000000) only [cE_ment,hasK_nil,cE_kill,cE_len,u32_one,u32_app1,u32_set,Nat.mul_one,↓hold_pre,awayP,runOps,regK,step1,newK,genR,appR,obl,buildR,Value.cells,closeK,keepH,outV,retK,ret1,retC,RetV,Option.getD,runD,stepD,afterK,undef,simprocAttr,sxB,↓sxD,sxE,sxTab]))
  exact hK.frz h2
 have hil:i<(ofN x').length:=by omega
 have hxi:=hu.idx (P:=Try.prog) (T:=55) tk55 tz55 (by omega) hil
 rw[hl]at hxi
 have hx0:(ofN x')[i]<4294967296:=ofN_ok_at hil
 have w3:IntKind.u64.wrap (((ofN x')[i]:Nat):Int)=(((ofN x')[i]:Nat):Int):=wrap64_id (by omega)
 have w4:IntKind.u64.wrap ((((ofN x')[i]:Nat):Int)+(c:Int))=(((ofN x')[i]+c:Nat):Int):=by
  rw[←Int.natCast_add,wrap64_id (by omega)]
 have hgx:(ofN x').getD i 0=(ofN x')[i]:=by simp[List.getD,hil]
 have fin:∀(r c':Nat) (s:St),r<4294967296→c'≤1→valN (out++[r])+wN (out.length+1)*c'=(valN ((ofN x').take i)+wN out.length*(ofN x')[i])+(valN ((ofN y').take i)+wN out.length*(ofN y').getD i 0)→
   lk s.env 23=.ext (.int .i64 ((i+1:Nat):Int))→lk s.env 22=.ext (.int .i64 (la:Int))→lk s.env 21=.ext u→lk s.env 6=.ext (.int .u64 (c':Int))→lk s.env 5=.slo 20 0 (i+1) 1→lk s.env 1=.ext v→lkH s.hp 20=some (55,cE u32V (out++[r]))→s.M=M→s.kb=0→s.fx=[]→
   ∃m' z,m'<la-i∧Le s z∧∃i c out,m'=la-i∧i≤la∧out.length=i∧okN out∧c≤1∧valN out+wN out.length*c=valN ((ofN x').take i)+valN ((ofN y').take i)∧z=adSt M u v la i c out:=fun r c' s hr hc' hst e23 e22 e21 e6 e5 e1 eh eM ek ef=>
  ⟨la-(i+1),adSt M u v la (i+1) c' (out++[r]),by omega,le_sub ⟨e23,e22,e21,e6,e5,e1,trivial⟩ ⟨eh,trivial⟩ eM.symm ek.symm ef.symm (by rw[ek];exact keepLt0 _),i+1,c',out++[r],rfl,by omega,by simp[hlo],okN_app.2 ⟨ho,okN_one hr⟩,hc',by
   rw[take_val,take_val,hgx,List.length_append,List.length_singleton,hst,hlo],rfl⟩
 by_cases hy:i<(ofN y').length
 ·have hyi:=hv.idx (P:=Try.prog) (T:=55) tk55 tz55 (by omega) hy
  have hy0:(ofN y')[i]<4294967296:=ofN_ok_at hy
  have hgy:(ofN y').getD i 0=(ofN y')[i]:=by simp[List.getD,hy]
  have w5:IntKind.u64.wrap (((ofN y')[i]:Nat):Int)=(((ofN y')[i]:Nat):Int):=wrap64_id (by omega)
  have w6:IntKind.u64.wrap ((((ofN x')[i]+c:Nat):Int)+(((ofN y')[i]:Nat):Int))=(((ofN x')[i]+c+(ofN y')[i]:Nat):Int):=by
   rw[←Int.natCast_add,wrap64_id (by omega)]
  have w7:=wrap32 ((ofN x')[i]+c+(ofN y')[i])
  have w8:=shr32 ((ofN x')[i]+c+(ofN y')[i])
  (try with_reducible refine Fz.of ?_);refine Go1.mk ?_;repeat' ((first|(with_reducible refine Go1.go ?_)|(refine And.intro ?_ ?_;(try simp only[sxO]at *);omega)|fail)<;>(try simp (maxSteps:=1000000) only [cE_ment,hasK_nil,cE_kill,cE_len,u32_one,u32_app1,u32_set,Nat.mul_one,adSt,u32V,hu.one,hv.one,hu.len,hu.sl,hl,hxi,hyi,w3,w4,w5,w6,w7,w8,hlo,↓hold_pre,awayP,runOps,regK,step1,newK,genR,appR,obl,buildR,Value.cells,closeK,keepH,outV,retK,ret1,retC,RetV,Option.getD,runD,stepD,afterK,undef,simprocAttr,sxB,↓sxD,sxE,sxTab]))
  exact fin _ _ _ (Nat.mod_lt _ (by decide)) (by omega) (by rw[hgy];exact add_step hval) rfl rfl rfl rfl rfl rfl rfl rfl rfl rfl
 ·have hyl:=hv.fin (i:=i) (by omega)
  have hgy:(ofN y').getD i 0=0:=by simp[List.getD,List.getElem?_eq_none (show (ofN y').length≤i by omega)]
  have w7:=wrap32 ((ofN x')[i]+c)
  have w8:=shr32 ((ofN x')[i]+c)
  (try with_reducible refine Fz.of ?_);refine Go1.mk ?_;repeat' ((first|(with_reducible refine Go1.go ?_)|(refine And.intro ?_ ?_;(try simp only[sxO]at *);omega)|fail)<;>(try simp (maxSteps:=1000000) only [cE_ment,hasK_nil,cE_kill,cE_len,u32_one,u32_app1,u32_set,Nat.mul_one,adSt,u32V,hu.one,hv.one,hu.len,hu.sl,hl,hxi,hyl,w3,w4,w7,w8,hlo,↓hold_pre,awayP,runOps,regK,step1,newK,genR,appR,obl,buildR,Value.cells,closeK,keepH,outV,retK,ret1,retC,RetV,Option.getD,runD,stepD,afterK,undef,simprocAttr,sxB,↓sxD,sxE,sxTab]))
  exact fin _ _ _ (Nat.mod_lt _ (by decide)) (by omega) (by rw[hgy];exact add_step (y:=0) hval) rfl rfl rfl rfl rfl rfl rfl rfl rfl rfl
def subW(a b:Nat):Nat:=(a+18446744073709551616-b) % 18446744073709551616
theorem wrap64_sub{a b:Nat}(hb:b≤18446744073709551616):IntKind.u64.wrap ((a:Int)-(b:Int))=((subW a b:Nat):Int):=by
 show ((a:Int)-(b:Int)) % 18446744073709551616=_
 unfold subW
 omega
theorem subW_3{x y b:Nat}(hx:x<4294967296)(hy:y<4294967296)(hb:b≤1):subW (subW x b) y % 4294967296+y+b=x+4294967296*(subW (subW x b) y / 9223372036854775808)∧subW (subW x b) y / 9223372036854775808≤1:=by
 unfold subW
 omega
end
end Go.Proofs.Ytjapnklocibgaaa.Sx
