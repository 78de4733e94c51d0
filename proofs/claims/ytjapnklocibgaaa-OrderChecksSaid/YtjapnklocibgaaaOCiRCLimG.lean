/- Part 28 of the texts of this claim: a symbolic executor and contracts of functions. -/
import Derived.Test.YtjapnklocibgaaaOCiRCLimF
namespace Go.Proofs.Ytjapnklocibgaaa.Sx
open Go Go.RowKit
set_option linter.unusedVariables false
set_option linter.unusedSimpArgs false
set_option maxRecDepth 100000
set_option maxHeartbeats 8000000
attribute [local congr] fin_congr finG_congr stepG_congr step1_congr runOps_congr brv_congr obl_congr condK_congr LoopK_congr seqK_congr CutK_congr vc_congr DrawK_congr regK_congr CallK_congr AskK_congr newK_congr retC_congr ret1_congr retK_congr outV_congr closeK_congr genR_congr appR_congr finD_congr finGD_congr stepGD_congr stepD_congr CallK0_congr runD_congr okR_congr CallS_congr vcX_congr
attribute [local congr] Stop_congr
def cmpN(x y:Nat):Int:=if x<y then -1 else if x=y then 0 else 1
theorem cmpN_lt{x y:Nat}(h:x<y):cmpN x y=-1:=by unfold cmpN;rw[if_pos h]
theorem cmpN_gt{x y:Nat}(h:y<x):cmpN x y=1:=by unfold cmpN;rw[if_neg (by omega),if_neg (by omega)]
theorem len_lt{x y:Nat}(h:(ofN x).length<(ofN y).length):x<y:=by
 rcases Nat.lt_or_ge x y with h1|h1
 ·exact h1
 ·exfalso
  have h2:=ofN_len_lt (n:=x) (Nat.le_refl _)
  have h3:=ofN_len_le (n:=y) (k:=(ofN x).length) (by omega)
  omega
theorem len_mono{x y:Nat}(h:x≤y):(ofN x).length≤(ofN y).length:=by
 rcases Nat.lt_or_ge (ofN y).length (ofN x).length with h1|h1
 ·have:=len_lt h1;omega
 ·exact h1
theorem lt_at{x y i:Nat}(hx:i<(ofN x).length)(hy:i<(ofN y).length)(he:(ofN x).drop (i+1)=(ofN y).drop (i+1))(h:(ofN x)[i]<(ofN y)[i]):x<y:=by
 have h1:=valN_cut (ofN x) (i:=i) (by omega)
 have h2:=valN_cut (ofN y) (i:=i) (by omega)
 rw[valN_drop hx,valN_ofN]at h1
 rw[valN_drop hy,valN_ofN,←he]at h2
 have h3:=valN_lt (okN_take (okN_ofN x) i)
 rw[List.length_take,Nat.min_eq_left (by omega)]at h3
 generalize (ofN x)[i]=a at *
 generalize (ofN y)[i]=b at *
 generalize valN ((ofN x).drop (i+1))=R at *
 have h4:wN i*(a+1+4294967296*R)≤wN i*(b+4294967296*R):=Nat.mul_le_mul_left _ (by omega)
 have h5:wN i*(a+1+4294967296*R)=wN i*(a+4294967296*R)+wN i:=by grind
 omega
theorem ofN_inj{x y:Nat}(h:ofN x=ofN y):x=y:=by
 rw[←valN_ofN x,←valN_ofN y,h]
section
variable {M:Mem}{K:AV→Hp→Mem→Prop}
def cpSt(M:Mem)(u v:Value)(j:Nat):St:={env:=[(5,.ext (.int .i64 ((j:Int)-1))),(0,.ext u),(1,.ext v)],hp:=[],M:=M,kb:=0,fx:=[]}
theorem compare_ok(u v:Value)(x y:Nat)(hu:IsL M u32V u (ofN x))(hv:IsL M u32V v (ofN y))(hx:(ofN x).length<100000000)(hy:(ofN y).length<100000000)(hK:K (.ext (.int .i64 (cmpN x y))) [] M):CallS Try.prog 44 [.ext u,.ext v] [] M [] K:=by
 refine inlS (cs:=[]) Try.mixed Try.func44 rfl (by kernel_rfl) 0 rfl rfl ?_
 simp only[Try.f44]
 generalize hl:(ofN x).length=la at *
 generalize hm:(ofN y).length=lb at *
 by_cases hne:la=lb
 case neg=>
  have d1:decide ((la:Int)=(lb:Int))=false:=by simp;omega
  by_cases hlt:la<lb
  ·have d2:decide ((la:Int)<(lb:Int))=true:=by simp;omega
   rw[cmpN_lt (len_lt (by omega))]at hK
   refine Go1.mk ?_;repeat' ((first|(with_reducible refine Go1.go ?_)|((with_reducible refine isDraw [some 23,some 24,some 25,some 26,some 27,some 28,some 29,some 30,some 31] (by decide) ?_);refine draw_rule [(0,[]),(1,[]),(2,[]),(3,[]),(4,[3]),(5,[3]),(6,[3]),(7,[3]),(8,[])] [[],[],[0,1],[0,1,2],[],[],[4,5],[4,5,6],[0,1,2,3,4,5,6,7]] [23,24,25,26,27,28,29,30] [] (by kernel_rfl) (by kernel_rfl) (by kernel_rfl) (by kernel_rfl) (by exact trivial) ?_)|((with_reducible refine isDraw [some 32,some 33,some 34,some 35,some 36,some 37,some 38,some 39,some 40] (by decide) ?_);refine draw_rule [(0,[]),(1,[]),(2,[]),(3,[]),(4,[3]),(5,[3]),(6,[3]),(7,[3]),(8,[])] [[],[],[0,1],[0,1,2],[],[],[4,5],[4,5,6],[0,1,2,3,4,5,6,7]] [32,33,34,35,36,37,38,39] [] (by kernel_rfl) (by kernel_rfl) (by kernel_rfl) (by kernel_rfl) (by exact trivial) ?_)|(refine And.intro ?_ ?_;(try simp only[sxO]at *);omega)|fail)<;>(try simp (maxSteps:=1000000) only [cE_ment,hasK_nil,cE_kill,cE_len,u32_one,u32_app1,u32_set,Nat.mul_one,hu.one,hv.one,hu.len,hu.sl,hl,hv.len,hv.sl,hm,d1,d2,↓hold_pre,awayP,runOps,regK,step1,newK,genR,appR,obl,buildR,Value.cells,closeK,keepH,outV,retK,ret1,retC,RetV,Option.getD,runD,stepD,afterK,undef,simprocAttr,sxB,↓sxD,sxE,sxTab]))
   exact hK
  ·have d2:decide ((la:Int)<(lb:Int))=false:=by simp;omega
   rw[cmpN_gt (len_lt (by omega))]at hK
   refine Go1.mk ?_;repeat' ((first|(with_reducible refine Go1.go ?_)|((with_reducible refine isDraw [some 23,some 24,some 25,some 26,some 27,some 28,some 29,some 30,some 31] (by decide) ?_);refine draw_rule [(0,[]),(1,[]),(2,[]),(3,[]),(4,[3]),(5,[3]),(6,[3]),(7,[3]),(8,[])] [[],[],[0,1],[0,1,2],[],[],[4,5],[4,5,6],[0,1,2,3,4,5,6,7]] [23,24,25,26,27,28,29,30] [] (by kernel_rfl) (by kernel_rfl) (by kernel_rfl) (by kernel_rfl) (by exact trivial) ?_)|((with_reducible refine isDraw [some 32,some 33,some 34,some 35,some 36,some 37,some 38,some 39,some 40] (by decide) ?_);refine draw_rule [(0,[]),(1,[]),(2,[]),(3,[]),(4,[3]),(5,[3]),(6,[3]),(7,[3]),(8,[])] [[],[],[0,1],[0,1,2],[],[],[4,5],[4,5,6],[0,1,2,3,4,5,6,7]] [32,33,34,35,36,37,38,39] [] (by kernel_rfl) (by kernel_rfl) (by kernel_rfl) (by kernel_rfl) (by exact trivial) ?_)|(refine And.intro ?_ ?_;(try simp only[sxO]at *);omega)|fail)<;>(try simp (maxSteps:=1000000) only [cE_ment,hasK_nil,cE_kill,cE_len,u32_one,u32_app1,u32_set,Nat.mul_one,hu.one,hv.one,hu.len,hu.sl,hl,hv.len,hv.sl,hm,d1,d2,↓hold_pre,awayP,runOps,regK,step1,newK,genR,appR,obl,buildR,Value.cells,closeK,keepH,outV,retK,ret1,retC,RetV,Option.getD,runD,stepD,afterK,undef,simprocAttr,sxB,↓sxD,sxE,sxTab]))
   exact hK
 subst hne
 have d1:decide ((la:Int)=(la:Int))=true:=by simp
 have w1:IntKind.i64.wrap ((la:Int)-1)=(la:Int)-1:=wrap_id (by omega) (by omega)
 refine Go1.mk ?_;repeat' ((first|(with_reducible refine Go1.go ?_)|((with_reducible refine isDraw [some 23,some 24,some 25,some 26,some 27,some 28,some 29,some 30,some 31] (by decide) ?_);refine draw_rule [(0,[]),(1,[]),(2,[]),(3,[]),(4,[3]),(5,[3]),(6,[3]),(7,[3]),(8,[])] [[],[],[0,1],[0,1,2],[],[],[4,5],[4,5,6],[0,1,2,3,4,5,6,7]] [23,24,25,26,27,28,29,30] [] (by kernel_rfl) (by kernel_rfl) (by kernel_rfl) (by kernel_rfl) (by exact trivial) ?_)|((with_reducible refine isDraw [some 32,some 33,some 34,some 35,some 36,some 37,some 38,some 39,some 40] (by decide) ?_);refine draw_rule [(0,[]),(1,[]),(2,[]),(3,[]),(4,[3]),(5,[3]),(6,[3]),(7,[3]),(8,[])] [[],[],[0,1],[0,1,2],[],[],[4,5],[4,5,6],[0,1,2,3,4,5,6,7]] [32,33,34,35,36,37,38,39] [] (by kernel_rfl) (by kernel_rfl) (by kernel_rfl) (by kernel_rfl) (by exact trivial) ?_)|(refine And.intro ?_ ?_;(try simp only[sxO]at *);omega)|fail)<;>(try simp (maxSteps:=1000000) only [cE_ment,hasK_nil,cE_kill,cE_len,u32_one,u32_app1,u32_set,Nat.mul_one,hu.one,hv.one,hu.len,hu.sl,hl,hv.len,hv.sl,hm,d1,w1,↓hold_pre,awayP,runOps,regK,step1,newK,genR,appR,obl,buildR,Value.cells,closeK,keepH,outV,retK,ret1,retC,RetV,Option.getD,runD,stepD,afterK,undef,simprocAttr,sxB,↓sxD,sxE,sxTab]))
 refine ⟨fun m z=>∃j,j=m∧j≤la∧(ofN x).drop j=(ofN y).drop j∧z=cpSt M u v j,
  ⟨la,cpSt M u v la,le_sub ⟨rfl,rfl,rfl,trivial⟩ trivial rfl rfl rfl (keepLt0 _),⟨la,rfl,by omega,by rw[List.drop_of_length_le (by omega),List.drop_of_length_le (by omega)],rfl⟩⟩,?_⟩
 rintro m z ⟨j,rfl,hj,hd,rfl⟩
 by_cases hlt:0<j
 case neg=>
  obtain rfl:j=0:=by omega
  have d2:decide ((0:Int)≤((0:Nat):Int)-1)=false:=by simp
  have e1:x=y:=ofN_inj (by simpa using hd)
  rw[show cmpN x y=0 by unfold cmpN;rw[if_neg (by omega),if_pos e1]]at hK
  refine Go1.mk ?_;repeat' ((first|(with_reducible refine Go1.go ?_)|((with_reducible refine isDraw [some 23,some 24,some 25,some 26,some 27,some 28,some 29,some 30,some 31] (by decide) ?_);refine draw_rule [(0,[]),(1,[]),(2,[]),(3,[]),(4,[3]),(5,[3]),(6,[3]),(7,[3]),(8,[])] [[],[],[0,1],[0,1,2],[],[],[4,5],[4,5,6],[0,1,2,3,4,5,6,7]] [23,24,25,26,27,28,29,30] [] (by kernel_rfl) (by kernel_rfl) (by kernel_rfl) (by kernel_rfl) (by exact trivial) ?_)|((with_reducible refine isDraw [some 32,some 33,some 34,some 35,some 36,some 37,some 38,some 39,some 40] (by decide) ?_);refine draw_rule [(0,[]),(1,[]),(2,[]),(3,[]),(4,[3]),(5,[3]),(6,[3]),(7,[3]),(8,[])] [[],[],[0,1],[0,1,2],[],[],[4,5],[4,5,6],[0,1,2,3,4,5,6,7]] [32,33,34,35,36,37,38,39] [] (by kernel_rfl) (by kernel_rfl) (by kernel_rfl) (by kernel_rfl) (by exact trivial) ?_)|(refine And.intro ?_ ?_;(try simp only[sxO]at *);omega)|fail)<;>(try simp (maxSteps:=1000000) only [cE_ment,hasK_nil,cE_kill,cE_len,u32_one,u32_app1,u32_set,Nat.mul_one,cpSt,hu.one,hv.one,d2,↓hold_pre,awayP,runOps,regK,step1,newK,genR,appR,obl,buildR,Value.cells,closeK,keepH,outV,retK,ret1,retC,RetV,Option.getD,runD,stepD,afterK,undef,simprocAttr,sxB,↓sxD,sxE,sxTab]))
  exact hK
 obtain ⟨i,rfl⟩:∃i,j=i+1:=⟨j-1,by omega⟩
 have ej:(((i+1:Nat):Int)-1)=(i:Int):=by omega
 have hil:i<(ofN x).length:=by omega
 have him:i<(ofN y).length:=by omega
 have hxi:=hu.idx (P:=Try.prog) (T:=55) tk55 tz55 (by omega) hil
 have hyi:=hv.idx (P:=Try.prog) (T:=55) tk55 tz55 (by omega) him
 rw[hl]at hxi
 rw[hm]at hyi
 have d2:decide ((0:Int)≤(i:Int))=true:=by simp
 have w10:IntKind.i64.wrap ((i:Int)-1)=(i:Int)-1:=wrap_id (by omega) (by omega)
 have lt1:=lt_at hil him hd
 have lt2:=lt_at him hil hd.symm
 have hdx:=List.drop_eq_getElem_cons hil
 have hdy:=List.drop_eq_getElem_cons him
 generalize (ofN x)[i]=a at *
 generalize (ofN y)[i]=b at *
 by_cases hab:a=b
 ·have d3:decide ((a:Int)=(b:Int))=true:=by simp;omega
  refine Go1.mk ?_;repeat' ((first|(with_reducible refine Go1.go ?_)|((with_reducible refine isDraw [some 23,some 24,some 25,some 26,some 27,some 28,some 29,some 30,some 31] (by decide) ?_);refine draw_rule [(0,[]),(1,[]),(2,[]),(3,[]),(4,[3]),(5,[3]),(6,[3]),(7,[3]),(8,[])] [[],[],[0,1],[0,1,2],[],[],[4,5],[4,5,6],[0,1,2,3,4,5,6,7]] [23,24,25,26,27,28,29,30] [] (by kernel_rfl) (by kernel_rfl) (by kernel_rfl) (by kernel_rfl) (by exact trivial) ?_)|((with_reducible refine isDraw [some 32,some 33,some 34,some 35,some 36,some 37,some 38,some 39,some 40] (by decide) ?_);refine draw_rule [(0,[]),(1,[]),(2,[]),(3,[]),(4,[3]),(5,[3]),(6,[3]),(7,[3]),(8,[])] [[],[],[0,1],[0,1,2],[],[],[4,5],[4,5,6],[0,1,2,3,4,5,6,7]] [32,33,34,35,36,37,38,39] [] (by kernel_rfl) (by kernel_rfl) (by kernel_rfl) (by kernel_rfl) (by exact trivial) ?_)|(refine And.intro ?_ ?_;(try simp only[sxO]at *);omega)|fail)<;>(try simp (maxSteps:=1000000) only [cE_ment,hasK_nil,cE_kill,cE_len,u32_one,u32_app1,u32_set,Nat.mul_one,cpSt,u32V,ej,hu.one,hv.one,hxi,hyi,d2,d3,w10,↓hold_pre,awayP,runOps,regK,step1,newK,genR,appR,obl,buildR,Value.cells,closeK,keepH,outV,retK,ret1,retC,RetV,Option.getD,runD,stepD,afterK,undef,simprocAttr,sxB,↓sxD,sxE,sxTab]))
  exact ⟨i,cpSt M u v i,by omega,le_sub ⟨rfl,rfl,rfl,trivial⟩ trivial rfl rfl rfl (keepLt0 _),i,rfl,by omega,by rw[hdx,hdy,hd,hab],rfl⟩
 ·have d3:decide ((a:Int)=(b:Int))=false:=by simp;omega
  by_cases hlt2:a<b
  ·have d4:decide ((a:Int)<(b:Int))=true:=by simp;omega
   rw[cmpN_lt (lt1 hlt2)]at hK
   refine Go1.mk ?_;repeat' ((first|(with_reducible refine Go1.go ?_)|((with_reducible refine isDraw [some 23,some 24,some 25,some 26,some 27,some 28,some 29,some 30,some 31] (by decide) ?_);refine draw_rule [(0,[]),(1,[]),(2,[]),(3,[]),(4,[3]),(5,[3]),(6,[3]),(7,[3]),(8,[])] [[],[],[0,1],[0,1,2],[],[],[4,5],[4,5,6],[0,1,2,3,4,5,6,7]] [23,24,25,26,27,28,29,30] [] (by kernel_rfl) (by kernel_rfl) (by kernel_rfl) (by kernel_rfl) (by exact trivial) ?_)|((with_reducible refine isDraw [some 32,some 33,some 34,some 35,some 36,some 37,some 38,some 39,some 40] (by decide) ?_);refine draw_rule [(0,[]),(1,[]),(2,[]),(3,[]),(4,[3]),(5,[3]),(6,[3]),(7,[3]),(8,[])] [[],[],[0,1],[0,1,2],[],[],[4,5],[4,5,6],[0,1,2,3,4,5,6,7]] [32,33,34,35,36,37,38,39] [] (by kernel_rfl) (by kernel_rfl) (by kernel_rfl) (by kernel_rfl) (by exact trivial) ?_)|(refine And.intro ?_ ?_;(try simp only[sxO]at *);omega)|fail)<;>(try simp (maxSteps:=1000000) only [cE_ment,hasK_nil,cE_kill,cE_len,u32_one,u32_app1,u32_set,Nat.mul_one,cpSt,u32V,ej,hu.one,hv.one,hxi,hyi,d2,d3,d4,w10,↓hold_pre,awayP,runOps,regK,step1,newK,genR,appR,obl,buildR,Value.cells,closeK,keepH,outV,retK,ret1,retC,RetV,Option.getD,runD,stepD,afterK,undef,simprocAttr,sxB,↓sxD,sxE,sxTab]))
   exact hK
  ·have d4:decide ((a:Int)<(b:Int))=false:=by simp;omega
   rw[cmpN_gt (lt2 (by omega))]at hK
   refine Go1.mk ?_;repeat' ((first|(with_reducible refine Go1.go ?_)|((with_reducible refine isDraw [some 23,some 24,some 25,some 26,some 27,some 28,some 29,some 30,some 31] (by decide) ?_);refine draw_rule [(0,[]),(1,[]),(2,[]),(3,[]),(4,[3]),(5,[3]),(6,[3]),(7,[3]),(8,[])] [[],[],[0,1],[0,1,2],[],[],[4,5],[4,5,6],[0,1,2,3,4,5,6,7]] [23,24,25,26,27,28,29,30] [] (by kernel_rfl) (by kernel_rfl) (by kernel_rfl) (by kernel_rfl) (by exact trivial) ?_)|((with_reducible refine isDraw [some 32,some 33,some 34,some 35,some 36,some 37,some 38,some 39,some 40] (by decide) ?_);refine draw_rule [(0,[]),(1,[]),(2,[]),(3,[]),(4,[3]),(5,[3]),(6,[3]),(7,[3]),(8,[])] [[],[],[0,1],[0,1,2],[],[],[4,5],[4,5,6],[0,1,2,3,4,5,6,7]] [32,33,34,35,36,37,38,39] [] (by kernel_rfl) (by kernel_rfl) (by kernel_rfl) (by kernel_rfl) (by exact trivial) ?_)|(refine And.intro ?_ ?_;(try simp only[sxO]at *);omega)|fail)<;>(try simp (maxSteps:=1000000) only [cE_ment,hasK_nil,cE_kill,cE_len,u32_one,u32_app1,u32_set,Nat.mul_one,cpSt,u32V,ej,hu.one,hv.one,hxi,hyi,d2,d3,d4,w10,↓hold_pre,awayP,runOps,regK,step1,newK,genR,appR,obl,buildR,Value.cells,closeK,keepH,outV,retK,ret1,retC,RetV,Option.getD,runD,stepD,afterK,undef,simprocAttr,sxB,↓sxD,sxE,sxTab]))
   exact hK
def blen(n:Nat):Nat:=if h:n=0 then 0 else blen (n / 2)+1
termination_by n
decreasing_by exact Nat.div_lt_self (by omega) (by decide)
theorem blen_zero:blen 0=0:=by rw[blen];simp
theorem blen_pos{n:Nat}(h:n≠0):blen n=blen (n / 2)+1:=by rw[blen];simp[h]
theorem blen_shift:∀(k n:Nat),2^k≤n→blen n=blen (n / 2^k)+k
 | 0,n,_=>by simp
 | k+1,n,h=>by
  have hp:=Nat.two_pow_pos k
  rw[Nat.pow_succ]at h
  rw[blen_pos (by omega),blen_shift k (n / 2) (by omega),Nat.div_div_eq_div_mul,Nat.pow_succ,Nat.mul_comm 2]
  omega
theorem blen_iff:∀(k n:Nat),blen n≤k↔n<2^k
 | 0,n=>by
  constructor
  ·intro h
   rcases Nat.eq_zero_or_pos n with h1|h1
   ·subst h1;decide
   ·rw[blen_pos (by omega)]at h;omega
  ·intro h
   have:n=0:=by simpa using h
   subst this;rw[blen_zero];exact Nat.le_refl _
 | k+1,n=>by
  by_cases h:n=0
  ·subst h;rw[blen_zero];simp[Nat.two_pow_pos]
  ·rw[blen_pos h,Nat.pow_succ]
   have:=blen_iff k (n / 2)
   constructor
   ·intro h1;have:=this.1 (by omega);omega
   ·intro h1;have:=this.2 (by omega);omega
def bl8:List Nat:=[0,1,2,2]++List.replicate 4 3++List.replicate 8 4++List.replicate 16 5++List.replicate 32 6++List.replicate 64 7++List.replicate 128 8
theorem bl8_ok{i:Nat}(h:i<256):bl8.getD i 0=blen i:=by
 have key:∀k,k≤8→∀i,2^k≤2*i→i<2^k→blen i=k:=fun k _ i h1 h2=>by
  have h3:=(blen_iff k i).2 h2
  rcases Nat.lt_or_ge (blen i) k with h4|h4
  ·exfalso
   have h5:=(blen_iff (k-1) i).1 (by omega)
   have:k=(k-1)+1:=by omega
   rw[this,Nat.pow_succ]at h1
   omega
  ·omega
 have tab:∀i,i<256→bl8.getD i 0≤8∧(i=0→bl8.getD i 0=0)∧(i≠0→2^(bl8.getD i 0)≤2*i∧i<2^(bl8.getD i 0)):=by decide +kernel
 obtain ⟨t1,t2,t3⟩:=tab i h
 by_cases h0:i=0
 ·rw[t2 h0,h0,blen_zero]
 ·exact (key _ t1 i (t3 h0).1 (t3 h0).2).symm
theorem wrap8(n:Nat):IntKind.u8.wrap (n:Int)=((n % 256:Nat):Int):=by
 show (n:Int) % 256=_
 omega
theorem shr16_32(a:Nat):(a:Int).fdiv (2^(min 16 IntKind.u32.bits))=((a / 65536:Nat):Int):=by
 have h1:min 16 IntKind.u32.bits=16:=rfl
 rw[h1,Int.fdiv_eq_ediv_of_nonneg _ (by decide)];omega
theorem shr8_32(a:Nat):(a:Int).fdiv (2^(min 8 IntKind.u32.bits))=((a / 256:Nat):Int):=by
 have h1:min 8 IntKind.u32.bits=8:=rfl
 rw[h1,Int.fdiv_eq_ediv_of_nonneg _ (by decide)];omega
def Tab8(T:ByteArray):Prop:=T.size=256∧∀i,i<256→byteAt T i=(bl8.getD i 0:Int)
theorem len_fin(T:ByteArray)(x n e:Nat)(E:Int)(hE:E=(e:Int))(he:e≤56)(hn:n<256)(hx:blen x=blen n+e)(hT:Tab8 T)(hK:K (.ext (.int .i64 (blen x:Int))) [] M) :
  ((0:Int)≤IntKind.u8.wrap (n:Int)∧IntKind.u8.wrap (n:Int)<(T.size:Int))∧K (.ext (.int .i64 (IntKind.i64.wrap (E+IntKind.i64.wrap (byteAt T (IntKind.u8.wrap (n:Int)).toNat))))) [] M:=by
 have h1:blen n≤8:=(blen_iff 8 n).2 (by omega)
 rw[wrap8,Nat.mod_eq_of_lt hn,hT.1,Int.toNat_natCast,hT.2 n hn,bl8_ok hn,hE,wrap_id (x:=(blen n:Int)) (by omega) (by omega),wrap_id (by omega) (by omega),←Int.natCast_add,Nat.add_comm,←hx]
 exact ⟨⟨by omega,by omega⟩,hK⟩
theorem len32_ok(x:Nat)(hx:x<4294967296)(hK:K (.ext (.int .i64 (blen x:Int))) [] M):CallS Try.prog 101 [.ext (.int .u32 (x:Int))] [] M [] K:=by
 refine inlS (cs:=[]) Try.mixed Try.func101 rfl (by kernel_rfl) 0 rfl rfl ?_
 simp only[Try.f101]
 have w1:=shr16_32 x
 have w2:=shr8_32 x
 have w3:=shr8_32 (x / 65536)
 have w4:IntKind.i64.wrap 24=24:=rfl
 have w5:IntKind.i64.wrap 8=8:=rfl
 have b1:65536≤x→blen x=blen (x / 65536)+16:=fun h=>blen_shift 16 x h
 have b2:256≤x→blen x=blen (x / 256)+8:=fun h=>blen_shift 8 x h
 have b3:256≤x / 65536→blen (x / 65536)=blen (x / 65536 / 256)+8:=fun h=>blen_shift 8 (x / 65536) h
 by_cases h1:65536≤x
 ·have d1:decide ((65536:Int)≤(x:Int))=true:=by simp;omega
  by_cases h2:256≤x / 65536
  ·have d2:decide ((256:Int)≤((x / 65536:Nat):Int))=true:=by rw[decide_eq_true_eq];omega
   refine Go1.mk ?_;repeat' ((first|(with_reducible refine Go1.go ?_)|(refine And.intro ?_ ?_;(try simp only[sxO]at *);omega)|fail)<;>(try simp (maxSteps:=1000000) only [d1,d2,w1,w3,w4,↓hold_pre,awayP,runOps,regK,step1,newK,genR,appR,obl,buildR,Value.cells,closeK,keepH,outV,retK,ret1,retC,RetV,Option.getD,runD,stepD,afterK,undef,simprocAttr,sxB,↓sxD,sxE,sxTab]))
   refine len_fin _ x _ 24 24 rfl (by omega) (by omega) (by rw[b1 (by omega)];have:=b3 (by omega);omega) ?_ hK
   exact ⟨by decide +kernel,by decide +kernel⟩
  ·have d2:decide ((256:Int)≤((x / 65536:Nat):Int))=false:=by rw[decide_eq_false_iff_not];omega
   refine Go1.mk ?_;repeat' ((first|(with_reducible refine Go1.go ?_)|(refine And.intro ?_ ?_;(try simp only[sxO]at *);omega)|fail)<;>(try simp (maxSteps:=1000000) only [d1,d2,w1,w4,↓hold_pre,awayP,runOps,regK,step1,newK,genR,appR,obl,buildR,Value.cells,closeK,keepH,outV,retK,ret1,retC,RetV,Option.getD,runD,stepD,afterK,undef,simprocAttr,sxB,↓sxD,sxE,sxTab]))
   refine len_fin _ x _ 16 16 rfl (by omega) (by omega) (b1 (by omega)) ?_ hK
   exact ⟨by decide +kernel,by decide +kernel⟩
 ·have d1:decide ((65536:Int)≤(x:Int))=false:=by simp;omega
  by_cases h2:256≤x
  ·have d2:decide ((256:Int)≤(x:Int))=true:=by rw[decide_eq_true_eq];omega
   refine Go1.mk ?_;repeat' ((first|(with_reducible refine Go1.go ?_)|(refine And.intro ?_ ?_;(try simp only[sxO]at *);omega)|fail)<;>(try simp (maxSteps:=1000000) only [d1,d2,w2,w5,↓hold_pre,awayP,runOps,regK,step1,newK,genR,appR,obl,buildR,Value.cells,closeK,keepH,outV,retK,ret1,retC,RetV,Option.getD,runD,stepD,afterK,undef,simprocAttr,sxB,↓sxD,sxE,sxTab]))
   refine len_fin _ x _ 8 8 rfl (by omega) (by omega) (b2 (by omega)) ?_ hK
   exact ⟨by decide +kernel,by decide +kernel⟩
  ·have d2:decide ((256:Int)≤(x:Int))=false:=by rw[decide_eq_false_iff_not];omega
   refine Go1.mk ?_;repeat' ((first|(with_reducible refine Go1.go ?_)|(refine And.intro ?_ ?_;(try simp only[sxO]at *);omega)|fail)<;>(try simp (maxSteps:=1000000) only [d1,d2,↓hold_pre,awayP,runOps,regK,step1,newK,genR,appR,obl,buildR,Value.cells,closeK,keepH,outV,retK,ret1,retC,RetV,Option.getD,runD,stepD,afterK,undef,simprocAttr,sxB,↓sxD,sxE,sxTab]))
   refine len_fin _ x _ 0 0 rfl (by omega) (by omega) rfl ?_ hK
   exact ⟨by decide +kernel,by decide +kernel⟩
theorem lead32_ok(x:Nat)(hx:x<4294967296)(hK:K (.ext (.int .i64 ((32-blen x:Nat):Int))) [] M):CallS Try.prog 84 [.ext (.int .u32 (x:Int))] [] M [] K:=by
 refine inlS (cs:=[]) Try.mixed Try.func84 rfl (by kernel_rfl) 0 rfl rfl ?_
 simp only[Try.f84]
 have h1:=(blen_iff 32 x).2 (by omega)
 have w1:IntKind.i64.wrap (32-(blen x:Int))=((32-blen x:Nat):Int):=by rw[wrap_id (by omega) (by omega)];omega
 refine Go1.mk ?_;repeat' ((first|(with_reducible refine Go1.go ?_)|(((with_reducible refine isCall (f:=101) ?_);refine callA_nil (by kernel_rfl) ?_;refine (len32_ok x hx ?_)))|(refine And.intro ?_ ?_;(try simp only[sxO]at *);omega)|fail)<;>(try simp (maxSteps:=1000000) only [w1,↓hold_pre,awayP,runOps,regK,step1,newK,genR,appR,obl,buildR,Value.cells,closeK,keepH,outV,retK,ret1,retC,RetV,Option.getD,runD,stepD,afterK,undef,simprocAttr,sxB,↓sxD,sxE,sxTab]))
 exact hK
end
end Go.Proofs.Ytjapnklocibgaaa.Sx
