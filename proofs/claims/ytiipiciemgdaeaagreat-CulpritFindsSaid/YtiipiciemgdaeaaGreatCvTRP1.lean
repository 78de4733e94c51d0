/- Part 35 of the texts of this claim: a symbolic executor and contracts of functions. -/
import Derived.Test.YtiipiciemgdaeaaGreatCvTRCLimJ
import Derived.Test.YtiipiciemgdaeaaGreatCvTRCBld
import Derived.Test.YtiipiciemgdaeaaGreatCvTRCRow
namespace Go.Proofs.YtiipiciemgdaeaaGreat.Sx
open Go Go.RowKit
set_option linter.unusedVariables false
set_option linter.unusedSimpArgs false
set_option maxRecDepth 100000
set_option maxHeartbeats 8000000
attribute [local congr] fin_congr finG_congr stepG_congr step1_congr runOps_congr brv_congr obl_congr condK_congr LoopK_congr seqK_congr CutK_congr vc_congr DrawK_congr regK_congr CallK_congr AskK_congr newK_congr retC_congr ret1_congr retK_congr outV_congr closeK_congr genR_congr appR_congr finD_congr finGD_congr stepGD_congr stepD_congr CallK0_congr runD_congr okR_congr CallS_congr vcX_congr
attribute [local congr] Stop_congr
def chkN(l:List Nat):Bool:=decide (l.length≤128)&&(decide (l.length=0) || !decide (l.getD (l.length-1) 0=0))
theorem chkN_ok{l:List Nat}(ho:okN l)(h:chkN l=true):l=ofN (valN l)∧l.length≤128:=by
 simp only[chkN,Bool.and_eq_true,Bool.or_eq_true,decide_eq_true_eq,Bool.not_eq_true',decide_eq_false_iff_not]at h
 refine ⟨canon ho fun hl=>?_,h.1⟩
 have h2:=h.2.resolve_left (by omega)
 simpa [List.getD,show l.length-1<l.length by omega] using h2
theorem chkN_ofN{n:Nat}(h:(ofN n).length≤128):chkN (ofN n)=true:=by
 simp only[chkN,Bool.and_eq_true,Bool.or_eq_true,decide_eq_true_eq,Bool.not_eq_true',decide_eq_false_iff_not]
 refine ⟨h,?_⟩
 rcases Nat.eq_zero_or_pos (ofN n).length with h1|h1
 ·exact .inl h1
 ·right
  have:=trimmed_ofN n h1
  simpa [List.getD,show (ofN n).length-1<(ofN n).length by omega] using this
section
variable {M:Mem}{K:AV→Hp→Mem→Prop}
theorem check_ok(u:Value)(l:List Nat)(hu:IsL M u32V u l)(hb:l.length<1000000000)(hK:K (.ext (.bool (chkN l))) [] M):CallS Tryz.prog 93 [.ext u] [] M [] K:=by
 refine inlS (cs:=[]) Tryz.mixed Tryz.func93 rfl (by kernel_rfl) 0 rfl rfl ?_
 simp only[Tryz.f93]
 by_cases h1:l.length≤128
 ·have d1:decide ((l.length:Int)≤128)=true:=by simp;omega
  by_cases h2:l.length=0
  ·have d2:decide ((l.length:Int)=0)=true:=by rw[h2];rfl
   rw[show chkN l=true by simp[chkN,h1,h2]]at hK
   refine wT (A12 @cE_ment @hasK_nil @cE_kill @cE_len @u32_one @u32_app1 @u32_set @Nat.mul_one hu.one hu.len hu.sl (A2 d1 d2)) ?_
   exact hK
  ·have d2:decide ((l.length:Int)=0)=false:=by rw[decide_eq_false_iff_not];omega
   have hi:=hu.idx (P:=Tryz.prog) (T:=79) tk79 tz79 (by omega) (show l.length-1<l.length by omega)
   have w1:IntKind.i64.wrap ((l.length:Int)-1)=((l.length-1:Nat):Int):=pred_i (by omega) (by omega)
   have hc:chkN l = !decide ((l[l.length-1]'(by omega):Int)=0):=by
    have e:decide ((l[l.length-1]'(by omega):Int)=0)=decide (l[l.length-1]'(by omega)=0):=by
     rw[decide_eq_decide];omega
    rw[e]
    simp[chkN,h1,h2,List.getD,show l.length-1<l.length by omega]
   rw[hc]at hK
   refine wT (A12 @cE_ment @hasK_nil @cE_kill @cE_len @u32_one @u32_app1 @u32_set @Nat.mul_one @u32V.eq_1 hu.one hu.len (A5 hu.sl d1 d2 hi w1)) ?_
   exact hK
 ·have d1:decide ((l.length:Int)≤128)=false:=by simp;omega
  rw[show chkN l=false by simp[chkN,h1]]at hK
  refine wT (A12 @cE_ment @hasK_nil @cE_kill @cE_len @u32_one @u32_app1 @u32_set @Nat.mul_one hu.one hu.len hu.sl d1) ?_
  exact hK
def ixSt(M:Mem)(k:Nat)(u v:Value)(i:Nat):St:={env:=[(8,.ext (.int .i64 (i:Int))),(7,.ext (.int .i64 2)),(6,.slo k 0 2 1),(0,.slo k 0 2 1),(1,.fn 177 [])],hp:=[(k,30,[.ext u,.ext v])],M:=M,kb:=100,fx:=[k]}
def ixI(M:Mem)(k:Nat)(u v:Value)(l1 l2:List Nat)(d:Nat)(z:St):Prop:=(d=2∧z=ixSt M k u v 0)∨(d=1∧chkN l1=true∧z=ixSt M k u v 1)∨(d=0∧chkN l1=true∧chkN l2=true∧z=ixSt M k u v 2)
theorem index_ok(k:Nat)(hk:k<100)(u v:Value)(l1 l2:List Nat)(hu:IsL M u32V u l1)(hv:IsL M u32V v l2)(hb1:l1.length<1000000000)(hb2:l2.length<1000000000)
  (hK:K (.ext (.int .i64 (if chkN l1 then (if chkN l2 then -1 else 1) else 0))) [(k,30,[.ext u,.ext v])] M) :
  CallS Tryz.prog 188 [.slo k 0 2 1,.fn 177 []] [(k,30,[.ext u,.ext v])] M [] K:=by
 refine inlS (cs:=[]) (f:=188) Tryz.mixed Tryz.func188 rfl (by kernel_rfl) 100 rfl (by simp[ltB,keysH,hk]) ?_
 simp only[Tryz.f188]
 refine wT (A10 @cE_ment @hasK_nil @cE_kill @cE_len @u32_one @u32_app1 @u32_set @Nat.mul_one hu.one hv.one) ?_
 refine ⟨ixI M k u v l1 l2,
  ⟨2,ixSt M k u v 0,le_sub ⟨rfl,rfl,rfl,rfl,rfl,trivial⟩ ⟨by simp[lkH],trivial⟩ rfl rfl rfl (by simp[keepLt,ixSt,lkH]),.inl ⟨rfl,rfl⟩⟩,?_⟩
 have i0:((0:Nat):Int)=0:=rfl
 have i1:((1:Nat):Int)=1:=rfl
 have i2:((2:Nat):Int)=2:=rfl
 rintro d z (⟨rfl,rfl⟩|⟨rfl,hc1,rfl⟩|⟨rfl,hc1,hc2,rfl⟩)
 ·cases hc:chkN l1 with
  | false=>
   rw[hc]at hK
   have hf:=A12 @cE_ment @hasK_nil @cE_kill @cE_len @u32_one @u32_app1 @u32_set @Nat.mul_one @ixSt.eq_1 i0 hc (A2 hu.one hv.one);refine sF ?_;(repeat' ((first|((with_reducible refine yA ?_);(refine kI 177 ?_;refine inlK (cs:=[]) (f:=177) Tryz.mixed Tryz.func177 rfl (by kernel_rfl) 200 rfl (by kernel_rfl) ?_;simp only[Tryz.f177]))|((with_reducible refine yN ?_);refine kS 93 (check_ok u l1 hu hb1 ?_))|refine oB ?_|fail)<;>refine sF ?_<;>try with_reducible exact tT))<;>try clear hf
   simpa using hK
  | true=>
   have hf:=A12 @cE_ment @hasK_nil @cE_kill @cE_len @u32_one @u32_app1 @u32_set @Nat.mul_one @ixSt.eq_1 i0 hc (A2 hu.one hv.one);refine sF ?_;(repeat' ((first|((with_reducible refine yA ?_);(refine kI 177 ?_;refine inlK (cs:=[]) (f:=177) Tryz.mixed Tryz.func177 rfl (by kernel_rfl) 200 rfl (by kernel_rfl) ?_;simp only[Tryz.f177]))|((with_reducible refine yN ?_);refine kS 93 (check_ok u l1 hu hb1 ?_))|refine oB ?_|fail)<;>refine sF ?_<;>try with_reducible exact tT))<;>try clear hf
   exact ⟨1,ixSt M k u v 1,by omega,le_sub ⟨rfl,rfl,rfl,rfl,rfl,trivial⟩ ⟨by simp[lkH],trivial⟩ rfl rfl rfl (by simp[keepLt,ixSt,lkH]),.inr (.inl ⟨rfl,hc,rfl⟩)⟩
 ·rw[hc1]at hK
  cases hc:chkN l2 with
  | false=>
   rw[hc]at hK
   have hf:=A12 @cE_ment @hasK_nil @cE_kill @cE_len @u32_one @u32_app1 @u32_set @Nat.mul_one @ixSt.eq_1 i1 hc (A2 hu.one hv.one);refine sF ?_;(repeat' ((first|((with_reducible refine yA ?_);(refine kI 177 ?_;refine inlK (cs:=[]) (f:=177) Tryz.mixed Tryz.func177 rfl (by kernel_rfl) 200 rfl (by kernel_rfl) ?_;simp only[Tryz.f177]))|((with_reducible refine yN ?_);refine kS 93 (check_ok v l2 hv hb2 ?_))|refine oB ?_|fail)<;>refine sF ?_<;>try with_reducible exact tT))<;>try clear hf
   simpa using hK
  | true=>
   have hf:=A12 @cE_ment @hasK_nil @cE_kill @cE_len @u32_one @u32_app1 @u32_set @Nat.mul_one @ixSt.eq_1 i1 hc (A2 hu.one hv.one);refine sF ?_;(repeat' ((first|((with_reducible refine yA ?_);(refine kI 177 ?_;refine inlK (cs:=[]) (f:=177) Tryz.mixed Tryz.func177 rfl (by kernel_rfl) 200 rfl (by kernel_rfl) ?_;simp only[Tryz.f177]))|((with_reducible refine yN ?_);refine kS 93 (check_ok v l2 hv hb2 ?_))|refine oB ?_|fail)<;>refine sF ?_<;>try with_reducible exact tT))<;>try clear hf
   exact ⟨0,ixSt M k u v 2,by omega,le_sub ⟨rfl,rfl,rfl,rfl,rfl,trivial⟩ ⟨by simp[lkH],trivial⟩ rfl rfl rfl (by simp[keepLt,ixSt,lkH]),.inr (.inr ⟨rfl,hc1,hc,rfl⟩)⟩
 ·rw[hc1,hc2]at hK
  refine wT (A12 @cE_ment @hasK_nil @cE_kill @cE_len @u32_one @u32_app1 @u32_set @Nat.mul_one @ixSt.eq_1 i2 hu.one hv.one) ?_
  simpa using hK
theorem contains_ok(k:Nat)(hk:k<70)(u v:Value)(l1 l2:List Nat)(hu:IsL M u32V u l1)(hv:IsL M u32V v l2)(hb1:l1.length<1000000000)(hb2:l2.length<1000000000)
  (hK:K (.ext (.bool (!(chkN l1&&chkN l2)))) [(k,30,[.ext u,.ext v])] M) :
  CallS Tryz.prog 176 [.slo k 0 2 1,.fn 177 []] [(k,30,[.ext u,.ext v])] M [] K:=by
 refine inlS (cs:=[]) (f:=176) Tryz.mixed Tryz.func176 rfl (by kernel_rfl) 70 rfl (by simp[ltB,keysH,hk]) ?_
 simp only[Tryz.f176]
 have d1:decide ((0:Int)≤(if chkN l1 then (if chkN l2 then -1 else 1) else 0)) = !(chkN l1&&chkN l2):=by
  cases chkN l1<;>cases chkN l2<;>rfl
 have hf:=A11 @cE_ment @hasK_nil @cE_kill @cE_len @u32_one @u32_app1 @u32_set @Nat.mul_one d1 hu.one hv.one;refine sF ?_;(repeat' ((first|((with_reducible first|refine yA ?_|refine yC ?_);first|refine kH 188 ?_|refine kS 188 (index_ok k (by omega) u v l1 l2 hu hv hb1 hb2 ?_))|refine oB ?_|fail)<;>refine sF ?_<;>try with_reducible exact tT))<;>try clear hf
 exact hK
theorem all_ok(k:Nat)(hk:k<50)(u v:Value)(l1 l2:List Nat)(hu:IsL M u32V u l1)(hv:IsL M u32V v l2)(hb1:l1.length<1000000000)(hb2:l2.length<1000000000)
  (hK:K (.ext (.bool (chkN l1&&chkN l2))) [(k,30,[.ext u,.ext v])] M) :
  CallS Tryz.prog 153 [.slo k 0 2 1] [(k,30,[.ext u,.ext v])] M [] K:=by
 refine inlS (cs:=[]) (f:=153) Tryz.mixed Tryz.func153 rfl (by kernel_rfl) 50 rfl (by simp[ltB,keysH,hk]) ?_
 simp only[Tryz.f153]
 refine Go1.mk ?_;repeat' ((first|(with_reducible refine Go1.go ?_)|((with_reducible refine isCall (f:=176) ?_);refine callA ?_)|((with_reducible refine isCallS (f:=176) ?_);refine (contains_ok k (by omega) u v l1 l2 hu hv hb1 hb2 ?_))|(refine And.intro ?_ ?_;(try simp only[sxO]at *);omega)|fail)<;>(try simp (maxSteps:=1000000) only [cE_ment,hasK_nil,cE_kill,cE_len,u32_one,u32_app1,u32_set,Nat.mul_one,hu.one,hv.one,Bool.not_not,↓hold_pre,awayP,runOps,regK,step1,newK,genR,appR,obl,buildR,Value.cells,closeK,keepH,outV,retK,ret1,retC,RetV,Option.getD,runD,stepD,afterK,undef,simprocAttr,sxB,↓sxD,sxE,sxTab]))
 exact hK
end
def NatR(M:Mem)(K:AV→Hp→Mem→Prop)(r:Int×List Nat):Prop:=∀w M',Mem.le M M'→IsL M' u32V w r.2→FreshS M w→K (.ext (.tuple #[w,.int .i64 r.1])) [] M'
def limR(n:Nat):Int×List Nat:=if (ofN n).length≤128 then (0,ofN n) else (2,[])
def addR(a b:List Nat):Int×List Nat:=if chkN a&&chkN b then limR (valN a+valN b) else (1,[])
def subR(a b:List Nat):Int×List Nat:=if chkN a&&chkN b then (if valN a<valN b then (5,[]) else (0,ofN (valN a-valN b))) else (1,[])
def mulR(a b:List Nat):Int×List Nat:=if chkN a&&chkN b then limR (valN a*valN b) else (1,[])
def cmpR(a b:List Nat):Int:=if chkN a&&chkN b then cmpN (valN a) (valN b) else 0
section
variable {M:Mem}{K:AV→Hp→Mem→Prop}
theorem NatR.err(e:Int)(h:NatR M K (e,[])):K (.ext (.tuple #[.slice none 0 0,.int .i64 e])) [] M:=h _ _ (Mem.le.refl _) (isL_nil _ _ _) (freshS_nil _ _)
theorem natOf_ok(n:Nat)(hn:n<18446744073709551616)(hK:NatK M K n):CallS Tryz.prog 104 [.ext (.int .u64 (n:Int))] [] M [] K:=by
 refine inlS (cs:=[]) Tryz.mixed Tryz.func104 rfl (by kernel_rfl) 0 rfl rfl ?_
 simp only[Tryz.f104]
 refine sU ?_;(repeat' ((first|((with_reducible refine yN ?_);refine kS 152 (of_ok n hn (fun w M' h1 h2 h3=>Stop.mk ?_)))|refine oB ?_|fail)<;>refine sU ?_<;>try with_reducible exact tT))
 refine wG h2.one ?_
 exact hK _ _ h1 h2 h3
theorem limit_ok(w:Value)(n:Nat)(hw:IsL M u32V w (ofN n))(hK1:(ofN n).length≤128→K (.ext (.tuple #[w,.int .i64 0])) [] M)(hK2:128<(ofN n).length→K (.ext (.tuple #[.slice none 0 0,.int .i64 2])) [] M):CallS Tryz.prog 154 [.ext w] [] M [] K:=by
 refine inlS (cs:=[]) Tryz.mixed Tryz.func154 rfl (by kernel_rfl) 0 rfl rfl ?_
 simp only[Tryz.f154]
 by_cases h:(ofN n).length≤128
 ·have d1:decide ((128:Int)<((ofN n).length:Int))=false:=by simp;omega
  refine wT (A4 hw.one hw.len hw.sl d1) ?_
  exact hK1 h
 ·have d1:decide ((128:Int)<((ofN n).length:Int))=true:=by simp;omega
  refine wT (A4 hw.one hw.len hw.sl d1) ?_
  exact hK2 (by omega)
theorem NatR.lim{n:Nat}{w:Value}{M1:Mem}{MM:Mem}{KK:AV→Hp→Mem→Prop}(h:NatR MM KK (limR n))(h1:Mem.le MM M1)(h2:IsL M1 u32V w (ofN n))(h3:FreshS MM w) :
  ((ofN n).length≤128→KK (.ext (.tuple #[w,.int .i64 0])) [] M1)∧(128<(ofN n).length→KK (.ext (.tuple #[.slice none 0 0,.int .i64 2])) [] M1):=by
 unfold limR at h
 constructor
 ·intro hl;rw[if_pos hl]at h;exact h _ _ h1 h2 h3
 ·intro hl;rw[if_neg (by omega)]at h;exact h _ _ h1 (isL_nil _ _ _) (freshS_nil _ _)
variable {u v:Value}{l1 l2:List Nat}
theorem natAdd_ok(hu:IsL M u32V u l1)(hv:IsL M u32V v l2)(h1:okN l1)(h2:okN l2)(hb1:l1.length<1000000)(hb2:l2.length<1000000)(hK:NatR M K (addR l1 l2)):CallS Tryz.prog 172 [.ext u,.ext v] [] M [] K:=by
 refine inlS (cs:=[]) Tryz.mixed Tryz.func172 rfl (by kernel_rfl) 0 rfl rfl ?_
 simp only[Tryz.f172]
 unfold addR at hK
 cases hc:(chkN l1&&chkN l2) with
 | false=>
  rw[hc]at hK
  have hf:=A11 @cE_ment @hasK_nil @cE_kill @cE_len @u32_one @u32_app1 @u32_set @Nat.mul_one hu.one hv.one hc;refine sF ?_;(repeat' ((first|((with_reducible first|refine yA ?_|refine yC ?_);first|refine kH 153 ?_|refine kS 153 (all_ok 8 (by omega) u v l1 l2 hu hv (by omega) (by omega) ?_))|refine oB ?_|fail)<;>refine sF ?_<;>try with_reducible exact tT))<;>try clear hf
  exact NatR.err _ hK
 | true=>
  rw[hc,if_pos rfl]at hK
  obtain ⟨c1,c2⟩:=Bool.and_eq_true_iff.1 hc
  obtain ⟨e1,b1⟩:=chkN_ok h1 c1
  obtain ⟨e2,b2⟩:=chkN_ok h2 c2
  have hu':=hu
  have hv':=hv
  rw[e1]at hu'
  rw[e2]at hv'
  have hf:=A11 @cE_ment @hasK_nil @cE_kill @cE_len @u32_one @u32_app1 @u32_set @Nat.mul_one hu.one hv.one hc;refine sF ?_;(repeat' ((first|((with_reducible first|refine yA ?_|refine yC ?_);first|refine kH 153 ?_|refine kS 153 (all_ok 8 (by omega) u v l1 l2 hu hv (by omega) (by omega) ?_))|((with_reducible refine yN ?_);refine kS 76 (add_ok u v _ _ hu' hv' (by rw[←e1];omega) (by rw[←e2];omega) (fun w M' a1 a2 a3=>Stop.mk ?_)))|refine oB ?_|fail)<;>refine sF ?_<;>try with_reducible exact tT))<;>try clear hf
  refine Stop.go ?_
  obtain ⟨k1,k2⟩:=hK.lim a1 a2 a3
  have hf:=A9 @cE_ment @hasK_nil @cE_kill @cE_len @u32_one @u32_app1 @u32_set @Nat.mul_one a2.one;refine wS ?_;refine kN 154 (limit_ok w _ a2 (fun h=>sG ?_) (fun h=>sG ?_));all_goals clear hf
  ·refine wG (A9 @cE_ment @hasK_nil @cE_kill @cE_len @u32_one @u32_app1 @u32_set @Nat.mul_one a2.one) ?_
   exact k1 h
  ·refine wG (A9 @cE_ment @hasK_nil @cE_kill @cE_len @u32_one @u32_app1 @u32_set @Nat.mul_one a2.one) ?_
   exact k2 h
theorem natMul_ok(hu:IsL M u32V u l1)(hv:IsL M u32V v l2)(h1:okN l1)(h2:okN l2)(hb1:l1.length<1000000)(hb2:l2.length<1000000)(hK:NatR M K (mulR l1 l2)):CallS Tryz.prog 107 [.ext u,.ext v] [] M [] K:=by
 refine inlS (cs:=[]) Tryz.mixed Tryz.func107 rfl (by kernel_rfl) 0 rfl rfl ?_
 simp only[Tryz.f107]
 unfold mulR at hK
 cases hc:(chkN l1&&chkN l2) with
 | false=>
  rw[hc]at hK
  have hf:=A11 @cE_ment @hasK_nil @cE_kill @cE_len @u32_one @u32_app1 @u32_set @Nat.mul_one hu.one hv.one hc;refine sF ?_;(repeat' ((first|((with_reducible first|refine yA ?_|refine yC ?_);first|refine kH 153 ?_|refine kS 153 (all_ok 8 (by omega) u v l1 l2 hu hv (by omega) (by omega) ?_))|refine oB ?_|fail)<;>refine sF ?_<;>try with_reducible exact tT))<;>try clear hf
  exact NatR.err _ hK
 | true=>
  rw[hc,if_pos rfl]at hK
  obtain ⟨c1,c2⟩:=Bool.and_eq_true_iff.1 hc
  obtain ⟨e1,b1⟩:=chkN_ok h1 c1
  obtain ⟨e2,b2⟩:=chkN_ok h2 c2
  have hu':=hu
  have hv':=hv
  rw[e1]at hu'
  rw[e2]at hv'
  have hf:=A11 @cE_ment @hasK_nil @cE_kill @cE_len @u32_one @u32_app1 @u32_set @Nat.mul_one hu.one hv.one hc;refine sF ?_;(repeat' ((first|((with_reducible first|refine yA ?_|refine yC ?_);first|refine kH 153 ?_|refine kS 153 (all_ok 8 (by omega) u v l1 l2 hu hv (by omega) (by omega) ?_))|((with_reducible refine yN ?_);refine kS 77 (mul_ok u v _ _ hu' hv' (by rw[←e1];omega) (by rw[←e2];omega) (fun w M' a1 a2 a3=>Stop.mk ?_)))|refine oB ?_|fail)<;>refine sF ?_<;>try with_reducible exact tT))<;>try clear hf
  refine Stop.go ?_
  obtain ⟨k1,k2⟩:=hK.lim a1 a2 a3
  have hf:=A9 @cE_ment @hasK_nil @cE_kill @cE_len @u32_one @u32_app1 @u32_set @Nat.mul_one a2.one;refine wS ?_;refine kN 154 (limit_ok w _ a2 (fun h=>sG ?_) (fun h=>sG ?_));all_goals clear hf
  ·refine wG (A9 @cE_ment @hasK_nil @cE_kill @cE_len @u32_one @u32_app1 @u32_set @Nat.mul_one a2.one) ?_
   exact k1 h
  ·refine wG (A9 @cE_ment @hasK_nil @cE_kill @cE_len @u32_one @u32_app1 @u32_set @Nat.mul_one a2.one) ?_
   exact k2 h
theorem natSub_ok(hu:IsL M u32V u l1)(hv:IsL M u32V v l2)(h1:okN l1)(h2:okN l2)(hb1:l1.length<1000000)(hb2:l2.length<1000000)(hK:NatR M K (subR l1 l2)):CallS Tryz.prog 109 [.ext u,.ext v] [] M [] K:=by
 refine inlS (cs:=[]) Tryz.mixed Tryz.func109 rfl (by kernel_rfl) 0 rfl rfl ?_
 simp only[Tryz.f109]
 unfold subR at hK
 cases hc:(chkN l1&&chkN l2) with
 | false=>
  rw[hc]at hK
  have hf:=A11 @cE_ment @hasK_nil @cE_kill @cE_len @u32_one @u32_app1 @u32_set @Nat.mul_one hu.one hv.one hc;refine sF ?_;(repeat' ((first|((with_reducible first|refine yA ?_|refine yC ?_);first|refine kH 153 ?_|refine kS 153 (all_ok 8 (by omega) u v l1 l2 hu hv (by omega) (by omega) ?_))|refine oB ?_|fail)<;>refine sF ?_<;>try with_reducible exact tT))<;>try clear hf
  exact NatR.err _ hK
 | true=>
  rw[hc,if_pos rfl]at hK
  obtain ⟨c1,c2⟩:=Bool.and_eq_true_iff.1 hc
  obtain ⟨e1,b1⟩:=chkN_ok h1 c1
  obtain ⟨e2,b2⟩:=chkN_ok h2 c2
  have hu':=hu
  have hv':=hv
  rw[e1]at hu'
  rw[e2]at hv'
  by_cases hlt:valN l1<valN l2
  ·rw[if_pos hlt]at hK
   have d1:decide (cmpN (valN l1) (valN l2)<0)=true:=by rw[cmpN_lt hlt];rfl
   have hf:=A12 @cE_ment @hasK_nil @cE_kill @cE_len @u32_one @u32_app1 @u32_set @Nat.mul_one hu.one hv.one hc d1;refine sF ?_;(repeat' ((first|((with_reducible first|refine yA ?_|refine yC ?_);first|refine kH 153 ?_|refine kS 153 (all_ok 8 (by omega) u v l1 l2 hu hv (by omega) (by omega) ?_))|((with_reducible refine yN ?_);refine kS 56 (compare_ok u v _ _ hu' hv' (by rw[←e1];omega) (by rw[←e2];omega) ?_))|refine oB ?_|fail)<;>refine sF ?_<;>try with_reducible exact tT))<;>try clear hf
   exact NatR.err _ hK
  ·rw[if_neg hlt]at hK
   have d1:decide (cmpN (valN l1) (valN l2)<0)=false:=by
    rw[decide_eq_false_iff_not];unfold cmpN;rw[if_neg hlt];split<;>omega
   have hf:=A12 @cE_ment @hasK_nil @cE_kill @cE_len @u32_one @u32_app1 @u32_set @Nat.mul_one hu.one hv.one hc d1;refine sF ?_;(repeat' ((first|((with_reducible first|refine yA ?_|refine yC ?_);first|refine kH 153 ?_|refine kS 153 (all_ok 8 (by omega) u v l1 l2 hu hv (by omega) (by omega) ?_))|((with_reducible refine yN ?_);first|refine kS 56 (compare_ok u v _ _ hu' hv' (by rw[←e1];omega) (by rw[←e2];omega) ?_)|refine kS 80 (sub_ok u v _ _ hu' hv' (by rw[←e1];omega) (by omega) (fun w M' a1 a2 a3=>Stop.mk ?_)))|refine oB ?_|fail)<;>refine sF ?_<;>try with_reducible exact tT))<;>try clear hf
   refine wG (A9 @cE_ment @hasK_nil @cE_kill @cE_len @u32_one @u32_app1 @u32_set @Nat.mul_one a2.one) ?_
   exact hK _ _ a1 a2 a3
def NatD(M:Mem)(K:AV→Hp→Mem→Prop)(r:Int×List Nat×List Nat):Prop:=∀q w M',Mem.le M M'→IsL M' u32V q r.2.1→IsL M' u32V w r.2.2→FreshS M q→FreshS M w→K (.ext (.tuple #[q,w,.int .i64 r.1])) [] M'
theorem NatD.err(e:Int)(h:NatD M K (e,[],[])):K (.ext (.tuple #[.slice none 0 0,.slice none 0 0,.int .i64 e])) [] M:=h _ _ _ (Mem.le.refl _) (isL_nil _ _ _) (isL_nil _ _ _) (freshS_nil _ _) (freshS_nil _ _)
theorem natCmp_ok(hu:IsL M u32V u l1)(hv:IsL M u32V v l2)(h1:okN l1)(h2:okN l2)(hb1:l1.length<1000000)(hb2:l2.length<1000000)(hK:K (.ext (.int .i64 (cmpR l1 l2))) [] M):CallS Tryz.prog 108 [.ext u,.ext v] [] M [] K:=by
 refine inlS (cs:=[]) Tryz.mixed Tryz.func108 rfl (by kernel_rfl) 0 rfl rfl ?_
 simp only[Tryz.f108]
 unfold cmpR at hK
 cases hc:(chkN l1&&chkN l2) with
 | false=>
  rw[hc]at hK
  have hf:=A11 @cE_ment @hasK_nil @cE_kill @cE_len @u32_one @u32_app1 @u32_set @Nat.mul_one hu.one hv.one hc;refine sF ?_;(repeat' ((first|((with_reducible first|refine yA ?_|refine yC ?_);first|refine kH 153 ?_|refine kS 153 (all_ok 7 (by omega) u v l1 l2 hu hv (by omega) (by omega) ?_))|refine oB ?_|fail)<;>refine sF ?_<;>try with_reducible exact tT))<;>try clear hf
  exact hK
 | true=>
  rw[hc,if_pos rfl]at hK
  obtain ⟨c1,c2⟩:=Bool.and_eq_true_iff.1 hc
  obtain ⟨e1,b1⟩:=chkN_ok h1 c1
  obtain ⟨e2,b2⟩:=chkN_ok h2 c2
  have hu':=hu
  have hv':=hv
  rw[e1]at hu'
  rw[e2]at hv'
  have hf:=A11 @cE_ment @hasK_nil @cE_kill @cE_len @u32_one @u32_app1 @u32_set @Nat.mul_one hu.one hv.one hc;refine sF ?_;(repeat' ((first|((with_reducible first|refine yA ?_|refine yC ?_);first|refine kH 153 ?_|refine kS 153 (all_ok 7 (by omega) u v l1 l2 hu hv (by omega) (by omega) ?_))|((with_reducible refine yN ?_);refine kS 56 (compare_ok u v _ _ hu' hv' (by rw[←e1];omega) (by rw[←e2];omega) ?_))|refine oB ?_|fail)<;>refine sF ?_<;>try with_reducible exact tT))<;>try clear hf
  exact hK
end
theorem wN_two(i:Nat):wN i=2^(32*i):=by unfold wN;rw[Nat.pow_mul]
section
variable {M:Mem}{K:AV→Hp→Mem→Prop}
theorem rcheck_ok(u:Value)(l:List Nat)(hu:IsL M u32V u l)(hb:l.length<1000000000)(hK:K (.ext (.bool (chkN l))) [] M):CallS Tryz.prog 166 [.ext u] [] M [] K:=by
 refine inlS (cs:=[]) Tryz.mixed Tryz.func166 rfl (by kernel_rfl) 0 rfl rfl ?_
 simp only[Tryz.f166]
 by_cases h1:l.length≤128
 ·have d1:decide ((l.length:Int)≤128)=true:=by simp;omega
  by_cases h2:l.length=0
  ·have d2:decide ((l.length:Int)=0)=true:=by rw[h2];rfl
   rw[show chkN l=true by simp[chkN,h1,h2]]at hK
   refine wT (A12 @cE_ment @hasK_nil @cE_kill @cE_len @u32_one @u32_app1 @u32_set @Nat.mul_one hu.one hu.len hu.sl (A2 d1 d2)) ?_
   exact hK
  ·have d2:decide ((l.length:Int)=0)=false:=by rw[decide_eq_false_iff_not];omega
   have hi:=hu.idx (P:=Tryz.prog) (T:=79) tk79 tz79 (by omega) (show l.length-1<l.length by omega)
   have w1:IntKind.i64.wrap ((l.length:Int)-1)=((l.length-1:Nat):Int):=pred_i (by omega) (by omega)
   have hc:chkN l = !decide ((l[l.length-1]'(by omega):Int)=0):=by
    have e:decide ((l[l.length-1]'(by omega):Int)=0)=decide (l[l.length-1]'(by omega)=0):=by
     rw[decide_eq_decide];omega
    rw[e]
    simp[chkN,h1,h2,List.getD,show l.length-1<l.length by omega]
   rw[hc]at hK
   refine wT (A12 @cE_ment @hasK_nil @cE_kill @cE_len @u32_one @u32_app1 @u32_set @Nat.mul_one @u32V.eq_1 hu.one hu.len (A5 hu.sl d1 d2 hi w1)) ?_
   exact hK
 ·have d1:decide ((l.length:Int)≤128)=false:=by simp;omega
  rw[show chkN l=false by simp[chkN,h1]]at hK
  refine wT (A12 @cE_ment @hasK_nil @cE_kill @cE_len @u32_one @u32_app1 @u32_set @Nat.mul_one hu.one hu.len hu.sl d1) ?_
  exact hK
def rcSt(M:Mem)(u v:Value)(j:Nat):St:={env:=[(5,.ext (.int .i64 ((j:Int)-1))),(0,.ext u),(1,.ext v)],hp:=[],M:=M,kb:=0,fx:=[]}
theorem rorder_ok(u v:Value)(x y:Nat)(hu:IsL M u32V u (ofN x))(hv:IsL M u32V v (ofN y))(hx:(ofN x).length<100000000)(hy:(ofN y).length<100000000)(hK:K (.ext (.int .i64 (cmpN x y))) [] M):CallS Tryz.prog 167 [.ext u,.ext v] [] M [] K:=by
 refine inlS (cs:=[]) Tryz.mixed Tryz.func167 rfl (by kernel_rfl) 0 rfl rfl ?_
 simp only[Tryz.f167]
 generalize hl:(ofN x).length=la at *
 generalize hm:(ofN y).length=lb at *
 by_cases hne:la=lb
 case neg=>
  have d1:decide ((la:Int)=(lb:Int))=false:=by simp;omega
  by_cases hlt:la<lb
  ·have d2:decide ((la:Int)<(lb:Int))=true:=by simp;omega
   rw[cmpN_lt (len_lt (by omega))]at hK
   have hf:=A12 @cE_ment @hasK_nil @cE_kill @cE_len @u32_one @u32_app1 @u32_set @Nat.mul_one hu.one hv.one hu.len (A7 hu.sl hl hv.len hv.sl hm d1 d2);refine sF ?_;(repeat' ((first|((with_reducible refine isE 23 (by decide) ?_);refine dR (rP 0 4 [] (rP 4 4 [3] [(8,[])])) (rgL 23 8 []) [] ?_)|((with_reducible refine isE 32 (by decide) ?_);refine dR (rP 0 4 [] (rP 4 4 [3] [(8,[])])) (rgL 32 8 []) [] ?_)|refine oB ?_|fail)<;>refine sF ?_<;>try with_reducible exact tT))<;>try clear hf
   exact hK
  ·have d2:decide ((la:Int)<(lb:Int))=false:=by simp;omega
   rw[cmpN_gt (len_lt (by omega))]at hK
   have hf:=A12 @cE_ment @hasK_nil @cE_kill @cE_len @u32_one @u32_app1 @u32_set @Nat.mul_one hu.one hv.one hu.len (A7 hu.sl hl hv.len hv.sl hm d1 d2);refine sF ?_;(repeat' ((first|((with_reducible refine isE 23 (by decide) ?_);refine dR (rP 0 4 [] (rP 4 4 [3] [(8,[])])) (rgL 23 8 []) [] ?_)|((with_reducible refine isE 32 (by decide) ?_);refine dR (rP 0 4 [] (rP 4 4 [3] [(8,[])])) (rgL 32 8 []) [] ?_)|refine oB ?_|fail)<;>refine sF ?_<;>try with_reducible exact tT))<;>try clear hf
   exact hK
 subst hne
 have d1:decide ((la:Int)=(la:Int))=true:=by simp
 have w1:IntKind.i64.wrap ((la:Int)-1)=(la:Int)-1:=wrap_id (by omega) (by omega)
 have hf:=A12 @cE_ment @hasK_nil @cE_kill @cE_len @u32_one @u32_app1 @u32_set @Nat.mul_one hu.one hv.one hu.len (A7 hu.sl hl hv.len hv.sl hm d1 w1);refine sF ?_;(repeat' ((first|((with_reducible refine isE 23 (by decide) ?_);refine dR (rP 0 4 [] (rP 4 4 [3] [(8,[])])) (rgL 23 8 []) [] ?_)|((with_reducible refine isE 32 (by decide) ?_);refine dR (rP 0 4 [] (rP 4 4 [3] [(8,[])])) (rgL 32 8 []) [] ?_)|refine oB ?_|fail)<;>refine sF ?_<;>try with_reducible exact tT))<;>try clear hf
 refine ⟨fun m z=>∃j,j=m∧j≤la∧(ofN x).drop j=(ofN y).drop j∧z=rcSt M u v j,
  ⟨la,rcSt M u v la,le_sub ⟨rfl,rfl,rfl,trivial⟩ trivial rfl rfl rfl (keepLt0 _),⟨la,rfl,by omega,by rw[List.drop_of_length_le (by omega),List.drop_of_length_le (by omega)],rfl⟩⟩,?_⟩
 rintro m z ⟨j,rfl,hj,hd,rfl⟩
 by_cases hlt:0<j
 case neg=>
  obtain rfl:j=0:=by omega
  have d2:decide ((0:Int)≤((0:Nat):Int)-1)=false:=by simp
  have e1:x=y:=ofN_inj (by simpa using hd)
  rw[show cmpN x y=0 by unfold cmpN;rw[if_neg (by omega),if_pos e1]]at hK
  have hf:=A12 @cE_ment @hasK_nil @cE_kill @cE_len @u32_one @u32_app1 @u32_set @Nat.mul_one @rcSt.eq_1 hu.one hv.one d2;refine sF ?_;(repeat' ((first|((with_reducible refine isE 23 (by decide) ?_);refine dR (rP 0 4 [] (rP 4 4 [3] [(8,[])])) (rgL 23 8 []) [] ?_)|((with_reducible refine isE 32 (by decide) ?_);refine dR (rP 0 4 [] (rP 4 4 [3] [(8,[])])) (rgL 32 8 []) [] ?_)|refine oB ?_|fail)<;>refine sF ?_<;>try with_reducible exact tT))<;>try clear hf
  exact hK
 obtain ⟨i,rfl⟩:∃i,j=i+1:=⟨j-1,by omega⟩
 have ej:(((i+1:Nat):Int)-1)=(i:Int):=by omega
 have hil:i<(ofN x).length:=by omega
 have him:i<(ofN y).length:=by omega
 have hxi:=hu.idx (P:=Tryz.prog) (T:=79) tk79 tz79 (by omega) hil
 have hyi:=hv.idx (P:=Tryz.prog) (T:=79) tk79 tz79 (by omega) him
 rw[hl]at hxi
 rw[hm]at hyi
 have d2:decide ((0:Int)≤(i:Int))=true:=by simp
 have w10:IntKind.i64.wrap ((i:Int)-1)=(i:Int)-1:=wrap_id (by omega) (by omega)
 have lt1:=lt_at hil him hd
 have lt2:=lt_at him hil hd.symm
 have hdx:=List.drop_eq_getElem_cons hil
 have hdy:=List.drop_eq_getElem_cons him
 generalize (ofN x)[i]=a at *
 generalize (ofN y)[i]=b at *
 by_cases hab:a=b
 ·have d3:decide ((a:Int)=(b:Int))=true:=by simp;omega
  have hf:=A12 @cE_ment @hasK_nil @cE_kill @cE_len @u32_one @u32_app1 @u32_set @Nat.mul_one @rcSt.eq_1 @u32V.eq_1 ej (A7 hu.one hv.one hxi hyi d2 d3 w10);refine sF ?_;(repeat' ((first|((with_reducible refine isE 23 (by decide) ?_);refine dR (rP 0 4 [] (rP 4 4 [3] [(8,[])])) (rgL 23 8 []) [] ?_)|((with_reducible refine isE 32 (by decide) ?_);refine dR (rP 0 4 [] (rP 4 4 [3] [(8,[])])) (rgL 32 8 []) [] ?_)|refine oB ?_|fail)<;>refine sF ?_<;>try with_reducible exact tT))<;>try clear hf
  exact ⟨i,rcSt M u v i,by omega,le_sub ⟨rfl,rfl,rfl,trivial⟩ trivial rfl rfl rfl (keepLt0 _),i,rfl,by omega,by rw[hdx,hdy,hd,hab],rfl⟩
 ·have d3:decide ((a:Int)=(b:Int))=false:=by simp;omega
  by_cases hlt2:a<b
  ·have d4:decide ((a:Int)<(b:Int))=true:=by simp;omega
   rw[cmpN_lt (lt1 hlt2)]at hK
   have hf:=A12 @cE_ment @hasK_nil @cE_kill @cE_len @u32_one @u32_app1 @u32_set @Nat.mul_one @rcSt.eq_1 @u32V.eq_1 ej (A8 hu.one hv.one hxi hyi d2 d3 d4 w10);refine sF ?_;(repeat' ((first|((with_reducible refine isE 23 (by decide) ?_);refine dR (rP 0 4 [] (rP 4 4 [3] [(8,[])])) (rgL 23 8 []) [] ?_)|((with_reducible refine isE 32 (by decide) ?_);refine dR (rP 0 4 [] (rP 4 4 [3] [(8,[])])) (rgL 32 8 []) [] ?_)|refine oB ?_|fail)<;>refine sF ?_<;>try with_reducible exact tT))<;>try clear hf
   exact hK
  ·have d4:decide ((a:Int)<(b:Int))=false:=by simp;omega
   rw[cmpN_gt (lt2 (by omega))]at hK
   have hf:=A12 @cE_ment @hasK_nil @cE_kill @cE_len @u32_one @u32_app1 @u32_set @Nat.mul_one @rcSt.eq_1 @u32V.eq_1 ej (A8 hu.one hv.one hxi hyi d2 d3 d4 w10);refine sF ?_;(repeat' ((first|((with_reducible refine isE 23 (by decide) ?_);refine dR (rP 0 4 [] (rP 4 4 [3] [(8,[])])) (rgL 23 8 []) [] ?_)|((with_reducible refine isE 32 (by decide) ?_);refine dR (rP 0 4 [] (rP 4 4 [3] [(8,[])])) (rgL 32 8 []) [] ?_)|refine oB ?_|fail)<;>refine sF ?_<;>try with_reducible exact tT))<;>try clear hf
   exact hK
def rtSt(M:Mem)(u:Value)(j:Nat):St:={env:=[(3,.ext (.int .i64 (j:Int))),(0,.ext u)],hp:=[],M:=M,kb:=0,fx:=[]}
theorem rtrim_ok(u:Value)(l:List Nat)(hu:IsL M u32V u l)(ho:okN l)(hb:l.length<1000000000)(hK:NatK M K (valN l)):CallS Tryz.prog 170 [.ext u] [] M [] K:=by
 refine CallS.frzF ?_
 refine inlS (cs:=[]) Tryz.mixed Tryz.func170 rfl (by kernel_rfl) 0 rfl rfl ?_
 simp only[Tryz.f170]
 refine wT (A11 @cE_ment @hasK_nil @cE_kill @cE_len @u32_one @u32_app1 @u32_set @Nat.mul_one hu.one hu.len hu.sl) ?_
 refine ⟨fun d z=>∃j,j=d∧j≤l.length∧(∀i (h:i<l.length),j≤i→l[i]=0)∧z=rtSt M u j,⟨l.length,rtSt M u l.length,le_sub ⟨rfl,rfl,trivial⟩ trivial rfl rfl rfl (keepLt0 _),⟨_,rfl,Nat.le_refl _,fun i h hi=>by omega,rfl⟩⟩,?_⟩
 rintro d z ⟨j,rfl,hj,hz,rfl⟩
 have hsub:=hu.sub (Nat.zero_le j) hj
 rw[List.drop_zero,Nat.sub_zero]at hsub
 have hslen:=hsub.len
 rw[List.length_take,Nat.min_eq_left hj]at hslen
 have hrow:=hsub.row
 have hcap:=hu.cap
 have d6:(j:Int)≤(scap u:Int):=by omega
 have d7:(0:Int)≤(j:Int):=by omega
 have hmp:List.map AV.ext (List.map u32V (l.take j))=cE u32V (l.take j):=rfl
 have key:(∀h:0<j,l[j-1]≠0)→FrzF K [] (.slo 21 0 j 1) [(21,79,cE u32V (l.take j))] M:=fun h=>by
  have e:=take_canon ho hj hz h
  rw[e]
  exact NatK.frz hK (by rw[←e,List.length_take];omega)
 by_cases hlt:0<j
 case neg=>
  obtain rfl:j=0:=by omega
  have d1:decide ((0:Int)<((0:Nat):Int))=false:=by decide
  refine wT (A12 @cE_ment @hasK_nil @cE_kill @cE_len @u32_one @u32_app1 @u32_set @Nat.mul_one @rtSt.eq_1 hu.one hu.len (A8 hu.sl d1 d6 d7 hsub.sl hslen hrow hmp)) ?_
  exact key (fun h=>by omega)
 have d1:decide ((0:Int)<(j:Int))=true:=by simp;omega
 have w1:=pred_i hlt (by omega)
 have hi:j-1<l.length:=by omega
 have hxi:=hu.idx (P:=Tryz.prog) (T:=79) tk79 tz79 (by omega) hi
 by_cases h0:l[j-1]=0
 ·have d4:decide ((l[j-1]:Int)=0)=true:=by simp;omega
  refine wT (A12 @cE_ment @hasK_nil @cE_kill @cE_len @u32_one @u32_app1 @u32_set @Nat.mul_one @u32V.eq_1 @rtSt.eq_1 hu.one (A6 hu.len hu.sl d1 w1 hxi d4)) ?_
  exact ⟨j-1,_,by omega,le_sub (z:=rtSt M u (j-1)) ⟨rfl,rfl,trivial⟩ trivial rfl rfl rfl (keepLt0 _),j-1,rfl,by omega,fun i h hi=>by
   rcases Nat.lt_or_ge i j with h1|h1
   ·obtain rfl:i=j-1:=by omega
    exact h0
   ·exact hz i h h1,rfl⟩
 ·have d4:decide ((l[j-1]:Int)=0)=false:=by simp;omega
  refine wT (A12 @cE_ment @hasK_nil @cE_kill @cE_len @u32_one @u32_app1 @u32_set @Nat.mul_one @u32V.eq_1 @rtSt.eq_1 hu.one (A12 hu.len hu.sl d1 w1 hxi d4 d6 d7 hsub.sl hslen hrow hmp)) ?_
  exact key (fun h=>h0)
theorem rtrim_bor(k n:Nat)(T:TypeId)(l:List Nat)(hn:n=l.length)(ho:okN l)(hb:l.length<1000000000)(hK:∀w M',Mem.le M M'→IsL M' u32V w (ofN (valN l))→FreshS M w→K (.ext w) [(k,T,cE u32V l)] M') :
  CallS Tryz.prog 170 [.slo k 0 n 1] [(k,T,cE u32V l)] M [] K:=by
 refine CallS.bor ⟨⟨_,rfl⟩,trivial⟩ fun us M' hM hb'=>?_
 obtain ⟨v1,_,rfl,h1,rfl⟩:=hb'
 have g1:=h1.isL (g:=u32V) (L:=l) (T:=T) (by simp[lkH]) hn
 refine rtrim_ok v1 l g1 ho hb fun w M2 h2 h3 h4=>?_
 exact ⟨fun j hj=>rfl,fun M3 h5 h6 _=>hK w M3 h5 (h3.move h4 h6) (h4.le hM)⟩
theorem rof_ok(n:Nat)(hn:n<18446744073709551616)(hK:NatK M K n):CallS Tryz.prog 138 [.ext (.int .u64 (n:Int))] [] M [] K:=by
 refine inlS (cs:=[]) Tryz.mixed Tryz.func138 rfl (by kernel_rfl) 0 rfl rfl ?_
 simp only[Tryz.f138]
 have w1:=wrap32 n
 have w2:=shr32 n
 have w3:IntKind.u32.wrap ((n / 4294967296:Nat):Int)=((n / 4294967296:Nat):Int):=wrap32_id (by omega)
 have c1:[AV.ext (.int .u32 ((n % 4294967296:Nat):Int)),AV.ext (.int .u32 ((n / 4294967296:Nat):Int))]=cE u32V [n % 4294967296,n / 4294967296]:=rfl
 have ho:okN [n % 4294967296,n / 4294967296]:=okN_cons.2 ⟨by omega,okN_one (by omega)⟩
 have hv:=val2 n
 have hf:=A12 @cE_ment @hasK_nil @cE_kill @cE_len @u32_one @u32_app1 @u32_set @Nat.mul_one w1 w2 w3 c1;refine wS ?_;refine yH 170 ?_;refine sF ?_;refine rtrim_bor 8 2 _ [n % 4294967296,n / 4294967296] rfl ho (by simp) (fun w M' h1 h2 h3=>sG ?_);all_goals clear hf
 rw[hv]at h2
 refine wG (A9 @cE_ment @hasK_nil @cE_kill @cE_len @u32_one @u32_app1 @u32_set @Nat.mul_one h2.one) ?_
 exact hK _ _ h1 h2 h3
variable {u v:Value}{l1 l2:List Nat}
theorem rCmp_ok(hu:IsL M u32V u l1)(hv:IsL M u32V v l2)(h1:okN l1)(h2:okN l2)(hb1:l1.length<1000000)(hb2:l2.length<1000000)(hK:K (.ext (.int .i64 (cmpR l1 l2))) [] M):CallS Tryz.prog 137 [.ext u,.ext v] [] M [] K:=by
 refine inlS (cs:=[]) Tryz.mixed Tryz.func137 rfl (by kernel_rfl) 0 rfl rfl ?_
 simp only[Tryz.f137]
 unfold cmpR at hK
 cases hc1:chkN l1 with
 | false=>
  rw[hc1]at hK
  have hf:=A3 hu.one hv.one hc1;refine sF ?_;(repeat' ((first|((with_reducible refine yN ?_);refine kS 166 (rcheck_ok u l1 hu (by omega) ?_))|refine oB ?_|fail)<;>refine sF ?_<;>try with_reducible exact tT))<;>try clear hf
  exact hK
 | true=>
  cases hc2:chkN l2 with
  | false=>
   rw[hc1,hc2]at hK
   have hf:=A3 hu.one hv.one hc1;refine wS ?_;refine kN 166 (rcheck_ok u l1 hu (by omega) (sG ?_));all_goals clear hf
   refine Stop.go ?_
   have hf:=A4 hu.one hv.one hc1 hc2;refine sF ?_;(repeat' ((first|((with_reducible refine yN ?_);refine kS 166 (rcheck_ok v l2 hv (by omega) ?_))|refine oB ?_|fail)<;>refine sF ?_<;>try with_reducible exact tT))<;>try clear hf
   exact hK
  | true=>
   rw[hc1,hc2]at hK
   obtain ⟨e1,b1⟩:=chkN_ok h1 hc1
   obtain ⟨e2,b2⟩:=chkN_ok h2 hc2
   have hu':=hu
   have hv':=hv
   rw[e1]at hu'
   rw[e2]at hv'
   have hf:=A3 hu.one hv.one hc1;refine wS ?_;refine kN 166 (rcheck_ok u l1 hu (by omega) (sG ?_));all_goals clear hf
   refine Stop.go ?_
   have hf:=A4 hu.one hv.one hc1 hc2;refine sF ?_;(repeat' ((first|((with_reducible refine yN ?_);first|refine kS 166 (rcheck_ok v l2 hv (by omega) ?_)|refine kS 167 (rorder_ok u v _ _ hu' hv' (by rw[←e1];omega) (by rw[←e2];omega) ?_))|refine oB ?_|fail)<;>refine sF ?_<;>try with_reducible exact tT))<;>try clear hf
   exact hK
end
end Go.Proofs.YtiipiciemgdaeaaGreat.Sx
namespace Go.Proofs.YtiipiciemgdaeaaGreat.Sx
set_option linter.unusedVariables false
end Go.Proofs.YtiipiciemgdaeaaGreat.Sx
namespace Go.Proofs.YtiipiciemgdaeaaGreat.Sx
open Go Go.RowKit
set_option linter.unusedVariables false
set_option linter.unusedSimpArgs false
set_option maxRecDepth 100000
set_option maxHeartbeats 8000000
attribute [local congr] fin_congr finG_congr stepG_congr step1_congr runOps_congr brv_congr obl_congr condK_congr LoopK_congr seqK_congr CutK_congr vc_congr DrawK_congr regK_congr CallK_congr AskK_congr newK_congr retC_congr ret1_congr retK_congr outV_congr closeK_congr genR_congr appR_congr finD_congr finGD_congr stepGD_congr stepD_congr CallK0_congr runD_congr okR_congr CallS_congr vcX_congr
attribute [local congr] Stop_congr
section
variable {M:Mem}{K:AV→Hp→Mem→Prop}
end
section
variable {M:Mem}{K:AV→Hp→Mem→Prop}
def snSt(M:Mem)(u1 u2:Value)(i:Nat):St:={env:=[(5,.ext (.int .i64 (i:Int))),(1,.ext u2),(0,.ext u1)],hp:=[],M:=M,kb:=0,fx:=[]}
theorem sameNat_ok(u1 u2:Value)(l:List Nat)(h1:IsL M u32V u1 l)(h2:IsL M u32V u2 l)(hb:l.length<1000000000)(hK:K (.ext (.bool true)) [] M):CallS Tryz.prog 61 [.ext u1,.ext u2] [] M [] K:=by
 refine inlS (cs:=[]) Tryz.mixed Tryz.func61 rfl (by kernel_rfl) 0 rfl rfl ?_
 simp only[Tryz.f61]
 have hl2:decide ((l.length:Int)=(l.length:Int))=true:=by simp
 have hf:=A5 h1.len h1.sl h2.len h2.sl hl2;refine sF ?_;(repeat' ((first|((with_reducible refine isE 17 (by decide) ?_);refine dR (rP 0 4 [] (rP 4 4 [3] [(8,[])])) (rgL 17 8 []) [] ?_)|refine oB ?_|fail)<;>refine sF ?_<;>try with_reducible exact tT))<;>try clear hf
 refine ⟨fun m z=>∃i,i≤l.length∧m=l.length-i∧z=snSt M u1 u2 i,⟨l.length,snSt M u1 u2 0,le_sub ⟨rfl,rfl,rfl,trivial⟩ trivial rfl rfl rfl (keepLt0 _),⟨0,by omega,rfl,rfl⟩⟩,?_⟩
 rintro m z ⟨i,hi,rfl,rfl⟩
 by_cases hlt:i<l.length
 ·have f1:=h1.idx (P:=Tryz.prog) (T:=79) tk79 tz79 (by omega) hlt
  have f2:=h2.idx (P:=Tryz.prog) (T:=79) tk79 tz79 (by omega) hlt
  have d1:decide ((l[i]:Int)=(l[i]:Int))=true:=by simp
  have hf:=A5 f1 f2 d1 @u32V.eq_1 @snSt.eq_1;refine sF ?_;(repeat' ((first|((with_reducible refine isE 17 (by decide) ?_);refine dR (rP 0 4 [] (rP 4 4 [3] [(8,[])])) (rgL 17 8 []) [] ?_)|refine oB ?_|fail)<;>refine sF ?_<;>try with_reducible exact tT))<;>try clear hf
  exact ⟨l.length-(i+1),snSt M u1 u2 (i+1),by omega,le_sub ⟨rfl,rfl,rfl,trivial⟩ trivial rfl rfl rfl (keepLt0 _),i+1,by omega,rfl,rfl⟩
 ·have f1:=h1.fin hlt
  obtain rfl:i=l.length:=by omega
  have hf:=A2 f1 @snSt.eq_1;refine sF ?_;(repeat' ((first|((with_reducible refine isE 17 (by decide) ?_);refine dR (rP 0 4 [] (rP 4 4 [3] [(8,[])])) (rgL 17 8 []) [] ?_)|refine oB ?_|fail)<;>refine sF ?_<;>try with_reducible exact tT))<;>try clear hf
  exact hK
end
def exF(n d:Nat):Int×Nat×Nat:=if (ofN (n / Nat.gcd n d)).length≤128∧(ofN (d / Nat.gcd n d)).length≤128 then (0,n / Nat.gcd n d,d / Nat.gcd n d) else (2,0,0)
def makF(a b:List Nat):Int×Nat×Nat:=if chkN a&&chkN b then (if valN b=0 then (4,0,0) else exF (valN a) (valN b)) else (1,0,0)
def ofF(a b:Int):Int×Nat×Nat:=if a<0∨b<0 then (5,0,0) else makF (ofN a.toNat) (ofN b.toNat)
def chkF(a b:List Nat):Bool:=chkN a&&chkN b&&!decide (valN b=0)&&(Nat.gcd (valN a) (valN b)==1)
theorem exF_is{n d:Nat}(h1:(ofN n).length≤128)(h2:(ofN d).length≤128):exF n d=(0,n / Nat.gcd n d,d / Nat.gcd n d):=by
 unfold exF
 have:=len_mono (Nat.div_le_self n (Nat.gcd n d))
 have:=len_mono (Nat.div_le_self d (Nat.gcd n d))
 rw[if_pos ⟨by omega,by omega⟩]
theorem chkF_ok{a b:List Nat}(ha:okN a)(hb:okN b)(h:chkF a b=true):a=ofN (valN a)∧b=ofN (valN b)∧a.length≤128∧b.length≤128∧0<valN b∧Nat.gcd (valN a) (valN b)=1:=by
 unfold chkF at h
 simp only[Bool.and_eq_true,Bool.not_eq_true',decide_eq_false_iff_not,beq_iff_eq]at h
 obtain ⟨⟨⟨h1,h2⟩,h3⟩,h4⟩:=h
 obtain ⟨e1,b1⟩:=chkN_ok ha h1
 obtain ⟨e2,b2⟩:=chkN_ok hb h2
 exact ⟨e1,e2,b1,b2,by omega,h4⟩
theorem nil_iff{l:List Nat}(h:l=ofN (valN l)):l.length=0↔valN l=0:=by
 constructor
 ·intro h0
  rw[List.length_eq_zero_iff.1 h0];rfl
 ·intro h0
  rw[h,h0,ofN_zero];rfl
def FracK(M:Mem)(K:AV→Hp→Mem→Prop)(r:Int×Nat×Nat):Prop:=∀w1 w2 M',Mem.le M M'→IsL M' u32V w1 (ofN r.2.1)→IsL M' u32V w2 (ofN r.2.2)→FreshS M w1→FreshS M w2→K (.ext (.tuple #[.agg #[w1,w2],.int .i64 r.1])) [] M'
section
variable {M:Mem}{K:AV→Hp→Mem→Prop}{u1 u2:Value}{l1 l2:List Nat}
theorem FracK.err{M':Mem}(e:Int)(h:FracK M K (e,0,0))(hM:Mem.le M M'):K (.ext (.tuple #[.agg #[.slice none 0 0,.slice none 0 0],.int .i64 e])) [] M':=h _ _ _ hM (by rw[ofN_zero];exact isL_nil _ _ _) (by rw[ofN_zero];exact isL_nil _ _ _) (freshS_nil _ _) (freshS_nil _ _)
theorem FracK.from{M':Mem}{r:Int×Nat×Nat}(h:FracK M K r)(hM:Mem.le M M'):FracK M' K r:=fun w1 w2 M2 a1 a2 a3 a4 a5=>h w1 w2 M2 (hM.trans a1) a2 a3 (a4.le hM) (a5.le hM)
theorem exact_ok(u v:Value)(n d:Nat)(hu:IsL M u32V u (ofN n))(hv:IsL M u32V v (ofN d))(hn:(ofN n).length<1000000)(hd:(ofN d).length<1000000)(hd0:0<d)(hK:FracK M K (exF n d)):CallS Tryz.prog 75 [.ext u,.ext v] [] M [] K:=by
 refine inlS (cs:=[]) Tryz.mixed Tryz.func75 rfl (by kernel_rfl) 0 rfl rfl ?_
 simp only[Tryz.f75]
 unfold exF at hK
 have hg0:0<Nat.gcd n d:=Nat.gcd_pos_of_pos_right _ hd0
 have hgl:=len_mono (Nat.gcd_le_right n hd0)
 have hn2:=len_mono (Nat.div_le_self n (Nat.gcd n d))
 have hd2:=len_mono (Nat.div_le_self d (Nat.gcd n d))
 have hf:=A2 hu.one hv.one;refine wS ?_;refine kN 96 (gcd_ok u v n d hu hv (by omega) (by omega) (fun g M1 a1 a2 a3=>sG ?_));all_goals clear hf
 have a1:Mem.le M M1:=a1
 generalize Nat.gcd n d=gg at *
 have hu1:=hu.le a1
 have hv1:=hv.le a1
 have hf:=A3 hu1.one hv1.one a2.one;refine wH ?_;refine kN 112 (divide_ok u g n gg hu1 a2 (by omega) (by omega) hg0 (fun q1 r1 M2 b1 b2 b3 b4 b5=>sG ?_));all_goals clear hf
 have b1:Mem.le M1 M2:=b1
 have hv2:=hv1.le b1
 have a2':=a2.le b1
 have hf:=A4 hv2.one a2'.one b2.one b3.one;refine wH ?_;refine kN 112 (divide_ok v g d gg hv2 a2' (by omega) (by omega) hg0 (fun q2 r2 M3 c1 c2 c3 c4 c5=>sG ?_));all_goals clear hf
 have c1:Mem.le M2 M3:=c1
 have b2':=b2.le c1
 have b3':=b3.le c1
 have hM:=(a1.trans b1).trans c1
 refine Stop.go ?_
 by_cases h1:(ofN (n / gg)).length≤128
 ·have d1:decide ((128:Int)<((ofN (n / gg)).length:Int))=false:=by rw[decide_eq_false_iff_not];omega
  by_cases h2:(ofN (d / gg)).length≤128
  ·have d2:decide ((128:Int)<((ofN (d / gg)).length:Int))=false:=by rw[decide_eq_false_iff_not];omega
   rw[if_pos ⟨h1,h2⟩]at hK
   refine wT (A10 b2'.one b2'.len b2'.sl b3'.one c2.one c2.len c2.sl c3.one d1 d2) ?_
   exact hK _ _ _ hM b2' c2 (b4.le a1) (c4.le (a1.trans b1))
  ·have d2:decide ((128:Int)<((ofN (d / gg)).length:Int))=true:=by rw[decide_eq_true_eq];omega
   rw[if_neg (fun h=>h2 h.2)]at hK
   refine wT (A10 b2'.one b2'.len b2'.sl b3'.one c2.one c2.len c2.sl c3.one d1 d2) ?_
   exact hK.err _ hM
 ·have d1:decide ((128:Int)<((ofN (n / gg)).length:Int))=true:=by rw[decide_eq_true_eq];omega
  rw[if_neg (fun h=>h1 h.1)]at hK
  refine wT (A9 b2'.one b2'.len b2'.sl b3'.one c2.one c2.len c2.sl c3.one d1) ?_
  exact hK.err _ hM
theorem fmake_ok(h1:IsL M u32V u1 l1)(h2:IsL M u32V u2 l2)(o1:okN l1)(o2:okN l2)(b1:l1.length<1000000)(b2:l2.length<1000000)(hK:FracK M K (makF l1 l2)):CallS Tryz.prog 51 [.ext u1,.ext u2] [] M [] K:=by
 refine inlS (cs:=[]) Tryz.mixed Tryz.func51 rfl (by kernel_rfl) 0 rfl rfl ?_
 simp only[Tryz.f51]
 unfold makF at hK
 cases hc1:chkN l1 with
 | false=>
  rw[hc1]at hK
  have hf:=A3 h1.one h2.one hc1;refine sF ?_;(repeat' ((first|((with_reducible refine yN ?_);refine kS 93 (check_ok u1 l1 h1 (by omega) ?_))|refine oB ?_|fail)<;>refine sF ?_<;>try with_reducible exact tT))<;>try clear hf
  exact hK.err _ (Mem.le.refl _)
 | true=>
  cases hc2:chkN l2 with
  | false=>
   rw[hc1,hc2]at hK
   have hf:=A4 h1.one h2.one hc1 hc2;refine sF ?_;(repeat' ((first|((with_reducible refine yN ?_);first|refine kS 93 (check_ok u1 l1 h1 (by omega) ?_)|refine kS 93 (check_ok u2 l2 h2 (by omega) ?_))|refine oB ?_|fail)<;>refine sF ?_<;>try with_reducible exact tT))<;>try clear hf
   exact hK.err _ (Mem.le.refl _)
  | true=>
   rw[hc1,hc2,Bool.and_self,if_pos rfl]at hK
   obtain ⟨e1,_⟩:=chkN_ok o1 hc1
   obtain ⟨e2,_⟩:=chkN_ok o2 hc2
   have h1':=h1
   have h2':=h2
   rw[e1]at h1'
   rw[e2]at h2'
   have hz:=nil_iff e2
   by_cases h0:valN l2=0
   ·rw[if_pos h0]at hK
    have d1:decide ((l2.length:Int)=0)=true:=by rw[decide_eq_true_eq];have:=hz.2 h0;omega
    have hf:=A7 h1.one h2.one h2.len h2.sl hc1 hc2 d1;refine sF ?_;(repeat' ((first|((with_reducible refine yN ?_);first|refine kS 93 (check_ok u1 l1 h1 (by omega) ?_)|refine kS 93 (check_ok u2 l2 h2 (by omega) ?_))|refine oB ?_|fail)<;>refine sF ?_<;>try with_reducible exact tT))<;>try clear hf
    exact hK.err _ (Mem.le.refl _)
   ·rw[if_neg h0]at hK
    have d1:decide ((l2.length:Int)=0)=false:=by rw[decide_eq_false_iff_not];have:=fun h=>h0 (hz.1 h);omega
    have hf:=A7 h1.one h2.one h2.len h2.sl hc1 hc2 d1;refine sF ?_;(repeat' ((first|((with_reducible refine yN ?_);first|refine kS 93 (check_ok u1 l1 h1 (by omega) ?_)|refine kS 93 (check_ok u2 l2 h2 (by omega) ?_)|refine kS 75 (exact_ok u1 u2 _ _ h1' h2' (by rw[←e1];omega) (by rw[←e2];omega) (by omega) (fun w1 w2 M1 a1 a2 a3 a4 a5=>Stop.mk ?_)))|refine oB ?_|fail)<;>refine sF ?_<;>try with_reducible exact tT))<;>try clear hf
    refine wG (A2 a2.one a3.one) ?_
    exact hK _ _ _ a1 a2 a3 a4 a5
theorem fof_ok(a b:Int)(ha : -9223372036854775808≤a)(ha2:a≤9223372036854775807)(hb : -9223372036854775808≤b)(hb2:b≤9223372036854775807)(hK:FracK M K (ofF a b)):CallS Tryz.prog 100 [.ext (.int .i64 a),.ext (.int .i64 b)] [] M [] K:=by
 refine inlS (cs:=[]) Tryz.mixed Tryz.func100 rfl (by kernel_rfl) 0 rfl rfl ?_
 simp only[Tryz.f100]
 unfold ofF at hK
 by_cases h1:a<0
 ·have d1:decide (a<0)=true:=by rw[decide_eq_true_eq];exact h1
  rw[if_pos (.inl h1)]at hK
  refine wT d1 ?_
  exact hK.err _ (Mem.le.refl _)
 have d1:decide (a<0)=false:=by rw[decide_eq_false_iff_not];exact h1
 by_cases h2:b<0
 ·have d2:decide (b<0)=true:=by rw[decide_eq_true_eq];exact h2
  rw[if_pos (.inr h2)]at hK
  refine wT (A2 d1 d2) ?_
  exact hK.err _ (Mem.le.refl _)
 have d2:decide (b<0)=false:=by rw[decide_eq_false_iff_not];exact h2
 rw[if_neg (by omega)]at hK
 obtain ⟨x,rfl⟩:=Int.eq_ofNat_of_zero_le (show 0≤a by omega)
 obtain ⟨y,rfl⟩:=Int.eq_ofNat_of_zero_le (show 0≤b by omega)
 have wx:IntKind.u64.wrap (x:Int)=(x:Int):=wrap64_id (by omega)
 have wy:IntKind.u64.wrap (y:Int)=(y:Int):=wrap64_id (by omega)
 have hxl:(ofN x).length≤2:=ofN_len_le (by rw[show wN 2=18446744073709551616 from rfl];omega)
 have hyl:(ofN y).length≤2:=ofN_len_le (by rw[show wN 2=18446744073709551616 from rfl];omega)
 rw[Int.toNat_natCast,Int.toNat_natCast]at hK
 have hf:=A4 d1 d2 wx wy;refine wS ?_;refine kN 104 (natOf_ok x (by omega) (fun w1 M1 a1 a2 a3=>sG ?_));all_goals clear hf
 have a1:Mem.le M M1:=a1
 have hf:=A2 a2.one wy;refine wH ?_;refine kN 104 (natOf_ok y (by omega) (fun w2 M2 b1 b2 b3=>sG ?_));all_goals clear hf
 have b1:Mem.le M1 M2:=b1
 have a2':=a2.le b1
 have hf:=A2 a2'.one b2.one;refine wH ?_;refine kN 51 (fmake_ok a2' b2 (okN_ofN _) (okN_ofN _) (by omega) (by omega) (fun w3 w4 M3 c1 c2 c3 c4 c5=>sG ?_));all_goals clear hf
 have c1:Mem.le M2 M3:=c1
 refine wG (A2 c2.one c3.one) ?_
 exact hK _ _ _ ((a1.trans b1).trans c1) c2 c3 (c4.le (a1.trans b1)) (c5.le (a1.trans b1))
theorem one_iff(g:Nat):(g=1)↔((ofN g).length=1∧(ofN g).getD 0 0=1):=by
 constructor
 ·rintro rfl
  have:ofN 1=[1]:=by rw[ofN_pos (by decide),show 1 / 4294967296=0 from rfl,ofN_zero]
  rw[this];simp
 ·rintro ⟨h1,h2⟩
  have:=valN_ofN g
  generalize ofN g=l at *
  match l,h1 with
  | [a],_=>simp[valN]at this h2;omega
theorem fcheck_ok(h1:IsL M u32V u1 l1)(h2:IsL M u32V u2 l2)(o1:okN l1)(o2:okN l2)(b1:l1.length<1000000)(b2:l2.length<1000000)(hK:∀M',Mem.le M M'→K (.ext (.bool (chkF l1 l2))) [] M'):CallS Tryz.prog 55 [.ext (.agg #[u1,u2])] [] M [] K:=by
 refine inlS (cs:=[]) Tryz.mixed Tryz.func55 rfl (by kernel_rfl) 0 rfl rfl ?_
 simp only[Tryz.f55]
 unfold chkF at hK
 cases hc1:chkN l1 with
 | false=>
  rw[hc1]at hK
  have hf:=A3 h1.one h2.one hc1;refine sF ?_;(repeat' ((first|((with_reducible refine yN ?_);refine kS 93 (check_ok u1 l1 h1 (by omega) ?_))|refine oB ?_|fail)<;>refine sF ?_<;>try with_reducible exact tT))<;>try clear hf
  exact hK _ (Mem.le.refl _)
 | true=>
  cases hc2:chkN l2 with
  | false=>
   rw[hc1,hc2]at hK
   have hf:=A4 h1.one h2.one hc1 hc2;refine sF ?_;(repeat' ((first|((with_reducible refine yN ?_);first|refine kS 93 (check_ok u1 l1 h1 (by omega) ?_)|refine kS 93 (check_ok u2 l2 h2 (by omega) ?_))|refine oB ?_|fail)<;>refine sF ?_<;>try with_reducible exact tT))<;>try clear hf
   exact hK _ (Mem.le.refl _)
  | true=>
   obtain ⟨e1,_⟩:=chkN_ok o1 hc1
   obtain ⟨e2,_⟩:=chkN_ok o2 hc2
   have h1':=h1
   have h2':=h2
   rw[e1]at h1'
   rw[e2]at h2'
   have hz:=nil_iff e2
   by_cases h0:valN l2=0
   ·rw[hc1,hc2,decide_eq_true h0]at hK
    have d1:decide ((l2.length:Int)=0)=true:=by rw[decide_eq_true_eq];have:=hz.2 h0;omega
    have hf:=A7 h1.one h2.one h2.len h2.sl hc1 hc2 d1;refine sF ?_;(repeat' ((first|((with_reducible refine yN ?_);first|refine kS 93 (check_ok u1 l1 h1 (by omega) ?_)|refine kS 93 (check_ok u2 l2 h2 (by omega) ?_))|refine oB ?_|fail)<;>refine sF ?_<;>try with_reducible exact tT))<;>try clear hf
    exact hK _ (Mem.le.refl _)
   have d1:decide ((l2.length:Int)=0)=false:=by rw[decide_eq_false_iff_not];have:=fun h=>h0 (hz.1 h);omega
   rw[hc1,hc2,decide_eq_false h0]at hK
   have hf:=A7 h1.one h2.one h2.len h2.sl hc1 hc2 d1;refine sF ?_;(repeat' ((first|((with_reducible refine yN ?_);first|refine kS 93 (check_ok u1 l1 h1 (by omega) ?_)|refine kS 93 (check_ok u2 l2 h2 (by omega) ?_)|refine kS 96 (gcd_ok u1 u2 _ _ h1' h2' (by rw[←e1];omega) (by rw[←e2];omega) (fun g M1 a1 a2 a3=>Stop.mk ?_)))|refine oB ?_|fail)<;>refine sF ?_<;>try with_reducible exact tT))<;>try clear hf
   have a1:Mem.le M M1:=a1
   have hgl:=len_mono (Nat.gcd_le_right (valN l1) (show 0<valN l2 by omega))
   rw[←e2]at hgl
   have hiff:=one_iff (Nat.gcd (valN l1) (valN l2))
   refine Stop.go ?_
   obtain ⟨gg,hgg⟩:∃gg,gg=Nat.gcd (valN l1) (valN l2):=⟨_,rfl⟩
   rw[←hgg]at hK hgl hiff a2
   clear hgg
   by_cases hl:(ofN gg).length=1
   ·have d2:decide (((ofN gg).length:Int)=1)=true:=by rw[decide_eq_true_eq];omega
    have hyi:=a2.idx (P:=Tryz.prog) (T:=79) tk79 tz79 (by omega) (show 0<(ofN gg).length by omega)
    have hat:(ofN gg).getD 0 0=(ofN gg)[0]:=by simp[List.getD_eq_getElem?_getD,hl]
    rw[hat]at hiff
    have d3:decide ((((ofN gg)[0]:Nat):Int)=1)=(gg==1):=by
     rw[Bool.eq_iff_iff,decide_eq_true_eq,beq_iff_eq,hiff]
     constructor
     ·intro h;exact ⟨hl,by omega⟩
     ·intro h;omega
    generalize (ofN gg)[0]=g0 at *
    refine wT (A9 @u32V.eq_1 a2.one a2.len a2.sl d2 d3 hyi @Int.natCast_zero @Int.cast_ofNat_Int) ?_
    exact hK _ a1
   ·have d2:decide (((ofN gg).length:Int)=1)=false:=by rw[decide_eq_false_iff_not];omega
    rw[show (gg==1)=false from beq_eq_false_iff_ne.2 (fun h=>hl (hiff.1 h).1)]at hK
    refine wT (A4 a2.one a2.len a2.sl d2) ?_
    exact hK _ a1
def CrossK(M:Mem)(K:AV→Hp→Mem→Prop)(x y:Nat):Prop:=∀w1 w2 M',Mem.le M M'→IsL M' u32V w1 (ofN x)→IsL M' u32V w2 (ofN y)→FreshS M w1→FreshS M w2→K (.ext (.tuple #[w1,w2])) [] M'
theorem cross_ok{v1 v2:Value}{n1 d1 n2 d2:Nat}(h1:IsL M u32V u1 (ofN n1))(h2:IsL M u32V u2 (ofN d1))(k1:IsL M u32V v1 (ofN n2))(k2:IsL M u32V v2 (ofN d2))(b1:(ofN n1).length<1000000)(b2:(ofN d1).length<1000000)(b3:(ofN n2).length<1000000)(b4:(ofN d2).length<1000000)(hK:CrossK M K (n1*d2) (n2*d1)):CallS Tryz.prog 57 [.ext (.agg #[u1,u2]),.ext (.agg #[v1,v2])] [] M [] K:=by
 refine inlS (cs:=[]) Tryz.mixed Tryz.func57 rfl (by kernel_rfl) 0 rfl rfl ?_
 simp only[Tryz.f57]
 have hf:=A4 h1.one h2.one k1.one k2.one;refine sF ?_;(repeat' ((first|((with_reducible refine yM ?_);refine kS 77 (mul_ok u1 v2 n1 d2 h1 k2 (by omega) (by omega) (fun w1 M1 a1 a2 a3=>Stop.mk ?_)))|((with_reducible refine isE 6 (by decide) ?_);refine dR ((0,[]) :: (1,[]) :: (2,[1]) :: (3,[1]) :: (5,[1,3]) :: (6,[1,3]) :: (7,[1,3,6]) :: (8,[1,3,6]) :: (4,[6,8]) :: (rP 9 3 [] [])) (rgL 6 9 []) [] ?_)|refine oB ?_|fail)<;>refine sF ?_<;>try with_reducible exact tT))<;>try clear hf
 have a1:Mem.le M M1:=a1
 have h1':=h1.le a1
 have h2':=h2.le a1
 have k1':=k1.le a1
 have k2':=k2.le a1
 refine Stop.go ?_
 have hf:=A5 h1'.one h2'.one k1'.one k2'.one a2.one;refine sF ?_;(repeat' ((first|((with_reducible refine yM ?_);refine kS 77 (mul_ok v1 u2 n2 d1 k1' h2' (by omega) (by omega) (fun w2 M2 c1 c2 c3=>Stop.mk ?_)))|((with_reducible refine isE 6 (by decide) ?_);refine dR ((0,[]) :: (1,[]) :: (2,[1]) :: (3,[1]) :: (5,[1,3]) :: (6,[1,3]) :: (7,[1,3,6]) :: (8,[1,3,6]) :: (4,[6,8]) :: (rP 9 3 [] [])) (rgL 6 9 []) [] ?_)|refine oB ?_|fail)<;>refine sF ?_<;>try with_reducible exact tT))<;>try clear hf
 have c1:Mem.le M1 M2:=c1
 refine wG (A2 a2.one c2.one) ?_
 exact hK _ _ _ (a1.trans c1) (a2.le c1) c2 a3 (c3.le a1)
end
structure IsF (M:Mem) (u1 u2:Value) (l1 l2:List Nat):Prop where
 n:IsL M u32V u1 l1
 d:IsL M u32V u2 l2
 on:okN l1
 od:okN l2
 bn:l1.length<1000000
 bd:l2.length<1000000
theorem IsF.le{M M':Mem}{u1 u2:Value}{l1 l2:List Nat}(h:IsF M u1 u2 l1 l2)(hM:Mem.le M M'):IsF M' u1 u2 l1 l2:=⟨h.n.le hM,h.d.le hM,h.on,h.od,h.bn,h.bd⟩
theorem IsF.num{M:Mem}{u1 u2:Value}{l1 l2:List Nat}(h:IsF M u1 u2 l1 l2)(hc:chkF l1 l2=true):∃n d,IsL M u32V u1 (ofN n)∧IsL M u32V u2 (ofN d)∧valN l1=n∧valN l2=d∧(ofN n).length≤128∧(ofN d).length≤128∧0<d:=by
 obtain ⟨e1,e2,b1,b2,h0,_⟩:=chkF_ok h.on h.od hc
 refine ⟨valN l1,valN l2,?_,?_,rfl,rfl,?_,?_,h0⟩
 ·rw[←e1];exact h.n
 ·rw[←e2];exact h.d
 ·rw[←e1];exact b1
 ·rw[←e2];exact b2
theorem mul_len(x y:Nat):(ofN (x*y)).length≤(ofN x).length+(ofN y).length:=ofN_len_le (by
 rw[wN_add]
 exact Nat.mul_lt_mul_of_lt_of_lt (ofN_len_lt (Nat.le_refl _)) (ofN_len_lt (Nat.le_refl _)))
theorem add_len{x y k:Nat}(h1:(ofN x).length≤k)(h2:(ofN y).length≤k):(ofN (x+y)).length≤k+1:=ofN_len_le (by
 have:=ofN_len_lt h1
 have:=ofN_len_lt h2
 rw[wN_succ];omega)
def addF(a b c d:List Nat):Int×Nat×Nat:=if chkF a b&&chkF c d then exF (valN a*valN d+valN c*valN b) (valN b*valN d) else (1,0,0)
def subF(a b c d:List Nat):Int×Nat×Nat:=if chkF a b&&chkF c d then (if valN a*valN d<valN c*valN b then (5,0,0) else exF (valN a*valN d-valN c*valN b) (valN b*valN d)) else (1,0,0)
def mulF(a b c d:List Nat):Int×Nat×Nat:=if chkF a b&&chkF c d then exF (valN a*valN c) (valN b*valN d) else (1,0,0)
def divF(a b c d:List Nat):Int×Nat×Nat:=if chkF a b&&chkF c d then (if valN c=0 then (4,0,0) else exF (valN a*valN d) (valN c*valN b)) else (1,0,0)
def cmpF(a b c d:List Nat):Int:=if chkF a b&&chkF c d then cmpN (valN a*valN d) (valN c*valN b) else 0
section
variable {M:Mem}{K:AV→Hp→Mem→Prop}{u1 u2 v1 v2:Value}{l1 l2 k1 k2:List Nat}
theorem fcmp_ok(ha:IsF M u1 u2 l1 l2)(hb:IsF M v1 v2 k1 k2)(hK:∀M',Mem.le M M'→K (.ext (.int .i64 (cmpF l1 l2 k1 k2))) [] M'):CallS Tryz.prog 26 [.ext (.agg #[u1,u2]),.ext (.agg #[v1,v2])] [] M [] K:=by
 refine inlS (cs:=[]) Tryz.mixed Tryz.func26 rfl (by kernel_rfl) 0 rfl rfl ?_
 simp only[Tryz.f26]
 unfold cmpF at hK
 have hf:=A4 ha.n.one ha.d.one hb.n.one hb.d.one;refine wS ?_;refine kN 55 (fcheck_ok ha.n ha.d ha.on ha.od ha.bn ha.bd (fun M1 m1=>sG ?_));all_goals clear hf
 have m1:Mem.le M M1:=m1
 have ha1:=ha.le m1
 have hb1:=hb.le m1
 refine Stop.go ?_
 cases hc1:chkF l1 l2 with
 | false=>
  rw[hc1]at hK
  refine wT (A4 ha1.n.one ha1.d.one hb1.n.one hb1.d.one) ?_
  exact hK _ m1
 | true=>
 have hf:=A4 ha1.n.one ha1.d.one hb1.n.one hb1.d.one;refine wS ?_;refine kN 55 (fcheck_ok hb1.n hb1.d hb1.on hb1.od hb1.bn hb1.bd (fun M2 m2=>sG ?_));all_goals clear hf
 have m2:Mem.le M1 M2:=m2
 have ha2:=ha1.le m2
 have hb2:=hb1.le m2
 have hm:=m1.trans m2
 refine Stop.go ?_
 cases hc2:chkF k1 k2 with
 | false=>
  rw[hc1,hc2]at hK
  refine wT (A4 ha2.n.one ha2.d.one hb2.n.one hb2.d.one) ?_
  exact hK _ hm
 | true=>
 rw[hc1,hc2,Bool.and_self,if_pos rfl]at hK
 obtain ⟨n1,d1,hn1,hd1,e1,e2,q1,q2,q3⟩:=ha2.num hc1
 obtain ⟨n2,d2,hn2,hd2,e3,e4,r1,r2,r3⟩:=hb2.num hc2
 rw[e1,e2,e3,e4]at hK
 have t1:=mul_len n1 d2
 have t2:=mul_len n2 d1
 have t3:=mul_len d1 d2
 have t4:=mul_len n1 n2
 have t0:0<d1*d2:=Nat.mul_pos q3 r3
 have hf:=A4 hn1.one hd1.one hn2.one hd2.one;refine wS ?_;refine kN 57 (cross_ok hn1 hd1 hn2 hd2 (by omega) (by omega) (by omega) (by omega) (fun wx wy M3 m3 hx hy fx fy=>sG ?_));all_goals clear hf
 have m3:Mem.le M2 M3:=m3
 have hn1:=hn1.le m3
 have hd1:=hd1.le m3
 have hn2:=hn2.le m3
 have hd2:=hd2.le m3
 have fx:=fx.le hm
 have fy:=fy.le hm
 have hm:=hm.trans m3
 refine Stop.go ?_
 have hf:=A6 hn1.one hd1.one hn2.one hd2.one hx.one hy.one;refine sF ?_;(repeat' ((first|((with_reducible refine yN ?_);refine kS 56 (compare_ok wx wy _ _ hx hy (by omega) (by omega) ?_))|refine oB ?_|fail)<;>refine sF ?_<;>try with_reducible exact tT))<;>try clear hf
 exact hK _ hm
theorem fadd_ok(ha:IsF M u1 u2 l1 l2)(hb:IsF M v1 v2 k1 k2)(hK:FracK M K (addF l1 l2 k1 k2)):CallS Tryz.prog 38 [.ext (.agg #[u1,u2]),.ext (.agg #[v1,v2])] [] M [] K:=by
 refine inlS (cs:=[]) Tryz.mixed Tryz.func38 rfl (by kernel_rfl) 0 rfl rfl ?_
 simp only[Tryz.f38]
 unfold addF at hK
 have hf:=A4 ha.n.one ha.d.one hb.n.one hb.d.one;refine wS ?_;refine kN 55 (fcheck_ok ha.n ha.d ha.on ha.od ha.bn ha.bd (fun M1 m1=>sG ?_));all_goals clear hf
 have m1:Mem.le M M1:=m1
 have ha1:=ha.le m1
 have hb1:=hb.le m1
 refine Stop.go ?_
 cases hc1:chkF l1 l2 with
 | false=>
  rw[hc1]at hK
  refine wT (A4 ha1.n.one ha1.d.one hb1.n.one hb1.d.one) ?_
  exact hK.err _ m1
 | true=>
 have hf:=A4 ha1.n.one ha1.d.one hb1.n.one hb1.d.one;refine wS ?_;refine kN 55 (fcheck_ok hb1.n hb1.d hb1.on hb1.od hb1.bn hb1.bd (fun M2 m2=>sG ?_));all_goals clear hf
 have m2:Mem.le M1 M2:=m2
 have ha2:=ha1.le m2
 have hb2:=hb1.le m2
 have hm:=m1.trans m2
 refine Stop.go ?_
 cases hc2:chkF k1 k2 with
 | false=>
  rw[hc1,hc2]at hK
  refine wT (A4 ha2.n.one ha2.d.one hb2.n.one hb2.d.one) ?_
  exact hK.err _ hm
 | true=>
 rw[hc1,hc2,Bool.and_self,if_pos rfl]at hK
 obtain ⟨n1,d1,hn1,hd1,e1,e2,q1,q2,q3⟩:=ha2.num hc1
 obtain ⟨n2,d2,hn2,hd2,e3,e4,r1,r2,r3⟩:=hb2.num hc2
 rw[e1,e2,e3,e4]at hK
 have t1:=mul_len n1 d2
 have t2:=mul_len n2 d1
 have t3:=mul_len d1 d2
 have t4:=mul_len n1 n2
 have t0:0<d1*d2:=Nat.mul_pos q3 r3
 have hf:=A4 hn1.one hd1.one hn2.one hd2.one;refine sF ?_;(repeat' ((first|((with_reducible refine yM ?_);refine kS 57 (cross_ok hn1 hd1 hn2 hd2 (by omega) (by omega) (by omega) (by omega) (fun wx wy M3 m3 hx hy fx fy=>Stop.mk ?_)))|((with_reducible refine isE 15 (by decide) ?_);refine dR ((0,[]) :: (1,[0]) :: (6,[0,1]) :: (7,[0,1]) :: (8,[0,1,7]) :: (9,[0,1,7]) :: (rP 2 4 [7,9] (rP 10 6 [] []))) (rgL 15 10 [27,28]) [] ?_)|refine oB ?_|fail)<;>refine sF ?_<;>try with_reducible exact tT))<;>try clear hf
 have m3:Mem.le M2 M3:=m3
 have hn1:=hn1.le m3
 have hd1:=hd1.le m3
 have hn2:=hn2.le m3
 have hd2:=hd2.le m3
 have fx:=fx.le hm
 have fy:=fy.le hm
 have hm:=hm.trans m3
 refine Stop.go ?_
 have hf:=A6 hn1.one hd1.one hn2.one hd2.one hx.one hy.one;refine sF ?_;(repeat' ((first|((with_reducible refine yM ?_);refine kS 76 (add_ok wx wy _ _ hx hy (by omega) (by omega) (fun ws M4 m4 hs fs=>Stop.mk ?_)))|((with_reducible refine isE 15 (by decide) ?_);refine dR ((0,[]) :: (1,[0]) :: (6,[0,1]) :: (7,[0,1]) :: (8,[0,1,7]) :: (9,[0,1,7]) :: (rP 2 4 [7,9] (rP 10 6 [] []))) (rgL 15 10 [27,28]) [] ?_)|refine oB ?_|fail)<;>refine sF ?_<;>try with_reducible exact tT))<;>try clear hf
 have m4:Mem.le M3 M4:=m4
 have hn1:=hn1.le m4
 have hd1:=hd1.le m4
 have hn2:=hn2.le m4
 have hd2:=hd2.le m4
 have hx:=hx.le m4
 have hy:=hy.le m4
 have fs:=fs.le hm
 have hm:=hm.trans m4
 refine Stop.go ?_
 have hf:=A7 hn1.one hd1.one hn2.one hd2.one hx.one hy.one hs.one;refine sF ?_;(repeat' ((first|((with_reducible refine yM ?_);refine kS 77 (mul_ok u2 v2 d1 d2 hd1 hd2 (by omega) (by omega) (fun wp M5 m5 hp fp=>Stop.mk ?_)))|((with_reducible refine isE 15 (by decide) ?_);refine dR ((0,[]) :: (1,[0]) :: (6,[0,1]) :: (7,[0,1]) :: (8,[0,1,7]) :: (9,[0,1,7]) :: (rP 2 4 [7,9] (rP 10 6 [] []))) (rgL 15 10 [27,28]) [] ?_)|refine oB ?_|fail)<;>refine sF ?_<;>try with_reducible exact tT))<;>try clear hf
 have m5:Mem.le M4 M5:=m5
 have hn1:=hn1.le m5
 have hd1:=hd1.le m5
 have hn2:=hn2.le m5
 have hd2:=hd2.le m5
 have hx:=hx.le m5
 have hy:=hy.le m5
 have hs:=hs.le m5
 have fp:=fp.le hm
 have hm:=hm.trans m5
 refine Stop.go ?_
 have t5:=add_len (x:=n1*d2) (y:=n2*d1) (k:=256) (by omega) (by omega)
 have hf:=A8 hn1.one hd1.one hn2.one hd2.one hx.one hy.one hs.one hp.one;refine sF ?_;(repeat' ((first|((with_reducible refine yM ?_);refine kS 75 (exact_ok ws wp _ _ hs hp (by omega) (by omega) t0 (fun w1 w2 M6 m6 h1 h2 f1 f2=>Stop.mk ?_)))|((with_reducible refine isE 15 (by decide) ?_);refine dR ((0,[]) :: (1,[0]) :: (6,[0,1]) :: (7,[0,1]) :: (8,[0,1,7]) :: (9,[0,1,7]) :: (rP 2 4 [7,9] (rP 10 6 [] []))) (rgL 15 10 [27,28]) [] ?_)|refine oB ?_|fail)<;>refine sF ?_<;>try with_reducible exact tT))<;>try clear hf
 have m6:Mem.le M5 M6:=m6
 have hn1:=hn1.le m6
 have hd1:=hd1.le m6
 have hn2:=hn2.le m6
 have hd2:=hd2.le m6
 have hx:=hx.le m6
 have hy:=hy.le m6
 have hs:=hs.le m6
 have hp:=hp.le m6
 have f1:=f1.le hm
 have f2:=f2.le hm
 have hm:=hm.trans m6
 refine wG (A10 hn1.one hd1.one hn2.one hd2.one hx.one hy.one hs.one hp.one h1.one h2.one) ?_
 exact hK _ _ _ hm h1 h2 f1 f2
theorem fmul_ok(ha:IsF M u1 u2 l1 l2)(hb:IsF M v1 v2 k1 k2)(hK:FracK M K (mulF l1 l2 k1 k2)):CallS Tryz.prog 39 [.ext (.agg #[u1,u2]),.ext (.agg #[v1,v2])] [] M [] K:=by
 refine inlS (cs:=[]) Tryz.mixed Tryz.func39 rfl (by kernel_rfl) 0 rfl rfl ?_
 simp only[Tryz.f39]
 unfold mulF at hK
 have hf:=A4 ha.n.one ha.d.one hb.n.one hb.d.one;refine wS ?_;refine kN 55 (fcheck_ok ha.n ha.d ha.on ha.od ha.bn ha.bd (fun M1 m1=>sG ?_));all_goals clear hf
 have m1:Mem.le M M1:=m1
 have ha1:=ha.le m1
 have hb1:=hb.le m1
 refine Stop.go ?_
 cases hc1:chkF l1 l2 with
 | false=>
  rw[hc1]at hK
  refine wT (A4 ha1.n.one ha1.d.one hb1.n.one hb1.d.one) ?_
  exact hK.err _ m1
 | true=>
 have hf:=A4 ha1.n.one ha1.d.one hb1.n.one hb1.d.one;refine wS ?_;refine kN 55 (fcheck_ok hb1.n hb1.d hb1.on hb1.od hb1.bn hb1.bd (fun M2 m2=>sG ?_));all_goals clear hf
 have m2:Mem.le M1 M2:=m2
 have ha2:=ha1.le m2
 have hb2:=hb1.le m2
 have hm:=m1.trans m2
 refine Stop.go ?_
 cases hc2:chkF k1 k2 with
 | false=>
  rw[hc1,hc2]at hK
  refine wT (A4 ha2.n.one ha2.d.one hb2.n.one hb2.d.one) ?_
  exact hK.err _ hm
 | true=>
 rw[hc1,hc2,Bool.and_self,if_pos rfl]at hK
 obtain ⟨n1,d1,hn1,hd1,e1,e2,q1,q2,q3⟩:=ha2.num hc1
 obtain ⟨n2,d2,hn2,hd2,e3,e4,r1,r2,r3⟩:=hb2.num hc2
 rw[e1,e2,e3,e4]at hK
 have t1:=mul_len n1 d2
 have t2:=mul_len n2 d1
 have t3:=mul_len d1 d2
 have t4:=mul_len n1 n2
 have t0:0<d1*d2:=Nat.mul_pos q3 r3
 have hf:=A4 hn1.one hd1.one hn2.one hd2.one;refine sF ?_;(repeat' ((first|((with_reducible refine yM ?_);refine kS 77 (mul_ok u1 v1 n1 n2 hn1 hn2 (by omega) (by omega) (fun ws M3 m3 hs fs=>Stop.mk ?_)))|((with_reducible refine isE 15 (by decide) ?_);refine dR ((0,[]) :: (1,[]) :: (2,[1]) :: (3,[1]) :: (5,[1,3]) :: (6,[1,3]) :: (7,[1,3,6]) :: (8,[1,3,6]) :: (4,[6,8]) :: (rP 9 6 [] [])) (rgL 15 9 [26,27]) [] ?_)|refine oB ?_|fail)<;>refine sF ?_<;>try with_reducible exact tT))<;>try clear hf
 have m3:Mem.le M2 M3:=m3
 have hn1:=hn1.le m3
 have hd1:=hd1.le m3
 have hn2:=hn2.le m3
 have hd2:=hd2.le m3
 have fs:=fs.le hm
 have hm:=hm.trans m3
 refine Stop.go ?_
 have hf:=A5 hn1.one hd1.one hn2.one hd2.one hs.one;refine sF ?_;(repeat' ((first|((with_reducible refine yM ?_);refine kS 77 (mul_ok u2 v2 d1 d2 hd1 hd2 (by omega) (by omega) (fun wp M4 m4 hp fp=>Stop.mk ?_)))|((with_reducible refine isE 15 (by decide) ?_);refine dR ((0,[]) :: (1,[]) :: (2,[1]) :: (3,[1]) :: (5,[1,3]) :: (6,[1,3]) :: (7,[1,3,6]) :: (8,[1,3,6]) :: (4,[6,8]) :: (rP 9 6 [] [])) (rgL 15 9 [26,27]) [] ?_)|refine oB ?_|fail)<;>refine sF ?_<;>try with_reducible exact tT))<;>try clear hf
 have m4:Mem.le M3 M4:=m4
 have hn1:=hn1.le m4
 have hd1:=hd1.le m4
 have hn2:=hn2.le m4
 have hd2:=hd2.le m4
 have hs:=hs.le m4
 have fp:=fp.le hm
 have hm:=hm.trans m4
 refine Stop.go ?_
 have hf:=A6 hn1.one hd1.one hn2.one hd2.one hs.one hp.one;refine sF ?_;(repeat' ((first|((with_reducible refine yM ?_);refine kS 75 (exact_ok ws wp _ _ hs hp (by omega) (by omega) t0 (fun w1 w2 M5 m5 h1 h2 f1 f2=>Stop.mk ?_)))|((with_reducible refine isE 15 (by decide) ?_);refine dR ((0,[]) :: (1,[]) :: (2,[1]) :: (3,[1]) :: (5,[1,3]) :: (6,[1,3]) :: (7,[1,3,6]) :: (8,[1,3,6]) :: (4,[6,8]) :: (rP 9 6 [] [])) (rgL 15 9 [26,27]) [] ?_)|refine oB ?_|fail)<;>refine sF ?_<;>try with_reducible exact tT))<;>try clear hf
 have m5:Mem.le M4 M5:=m5
 have hn1:=hn1.le m5
 have hd1:=hd1.le m5
 have hn2:=hn2.le m5
 have hd2:=hd2.le m5
 have hs:=hs.le m5
 have hp:=hp.le m5
 have f1:=f1.le hm
 have f2:=f2.le hm
 have hm:=hm.trans m5
 refine wG (A8 hn1.one hd1.one hn2.one hd2.one hs.one hp.one h1.one h2.one) ?_
 exact hK _ _ _ hm h1 h2 f1 f2
theorem fdiv_ok(ha:IsF M u1 u2 l1 l2)(hb:IsF M v1 v2 k1 k2)(hK:FracK M K (divF l1 l2 k1 k2)):CallS Tryz.prog 164 [.ext (.agg #[u1,u2]),.ext (.agg #[v1,v2])] [] M [] K:=by
 refine inlS (cs:=[]) Tryz.mixed Tryz.func164 rfl (by kernel_rfl) 0 rfl rfl ?_
 simp only[Tryz.f164]
 unfold divF at hK
 have hf:=A4 ha.n.one ha.d.one hb.n.one hb.d.one;refine wS ?_;refine kN 55 (fcheck_ok ha.n ha.d ha.on ha.od ha.bn ha.bd (fun M1 m1=>sG ?_));all_goals clear hf
 have m1:Mem.le M M1:=m1
 have ha1:=ha.le m1
 have hb1:=hb.le m1
 refine Stop.go ?_
 cases hc1:chkF l1 l2 with
 | false=>
  rw[hc1]at hK
  refine wT (A4 ha1.n.one ha1.d.one hb1.n.one hb1.d.one) ?_
  exact hK.err _ m1
 | true=>
 have hf:=A4 ha1.n.one ha1.d.one hb1.n.one hb1.d.one;refine wS ?_;refine kN 55 (fcheck_ok hb1.n hb1.d hb1.on hb1.od hb1.bn hb1.bd (fun M2 m2=>sG ?_));all_goals clear hf
 have m2:Mem.le M1 M2:=m2
 have ha2:=ha1.le m2
 have hb2:=hb1.le m2
 have hm:=m1.trans m2
 refine Stop.go ?_
 cases hc2:chkF k1 k2 with
 | false=>
  rw[hc1,hc2]at hK
  refine wT (A4 ha2.n.one ha2.d.one hb2.n.one hb2.d.one) ?_
  exact hK.err _ hm
 | true=>
 rw[hc1,hc2,Bool.and_self,if_pos rfl]at hK
 obtain ⟨n1,d1,hn1,hd1,e1,e2,q1,q2,q3⟩:=ha2.num hc1
 obtain ⟨n2,d2,hn2,hd2,e3,e4,r1,r2,r3⟩:=hb2.num hc2
 rw[e1,e2,e3,e4]at hK
 have t1:=mul_len n1 d2
 have t2:=mul_len n2 d1
 have t3:=mul_len d1 d2
 have t4:=mul_len n1 n2
 have t0:0<d1*d2:=Nat.mul_pos q3 r3
 by_cases hz:n2=0
 ·have z1:decide (((ofN n2).length:Int)=0)=true:=by rw[hz,ofN_zero];rfl
  rw[if_pos hz]at hK
  refine wT (A7 hn1.one hd1.one hn2.one hn2.len hn2.sl hd2.one z1) ?_
  exact hK.err _ hm
 rw[if_neg hz]at hK
 have z1:decide (((ofN n2).length:Int)=0)=false:=by
  rw[decide_eq_false_iff_not]
  intro h
  exact hz (ofN_nil.1 (List.length_eq_zero_iff.1 (by omega)))
 have z0:0<n2*d1:=Nat.mul_pos (by omega) q3
 have hf:=A7 hn1.one hd1.one hn2.one hd2.one hn2.len hn2.sl z1;refine wS ?_;refine kN 57 (cross_ok hn1 hd1 hn2 hd2 (by omega) (by omega) (by omega) (by omega) (fun wx wy M3 m3 hx hy fx fy=>sG ?_));all_goals clear hf
 have m3:Mem.le M2 M3:=m3
 have hn1:=hn1.le m3
 have hd1:=hd1.le m3
 have hn2:=hn2.le m3
 have hd2:=hd2.le m3
 have fx:=fx.le hm
 have fy:=fy.le hm
 have hm:=hm.trans m3
 have hf:=A6 hn1.one hd1.one hn2.one hd2.one hx.one hy.one;refine wH ?_;refine kN 75 (exact_ok wx wy _ _ hx hy (by omega) (by omega) z0 (fun w1 w2 M4 m4 h1 h2 f1 f2=>sG ?_));all_goals clear hf
 have m4:Mem.le M3 M4:=m4
 have hn1:=hn1.le m4
 have hd1:=hd1.le m4
 have hn2:=hn2.le m4
 have hd2:=hd2.le m4
 have hx:=hx.le m4
 have hy:=hy.le m4
 have f1:=f1.le hm
 have f2:=f2.le hm
 have hm:=hm.trans m4
 refine wG (A8 hn1.one hd1.one hn2.one hd2.one hx.one hy.one h1.one h2.one) ?_
 exact hK _ _ _ hm h1 h2 f1 f2
theorem fsub_ok(ha:IsF M u1 u2 l1 l2)(hb:IsF M v1 v2 k1 k2)(hK:FracK M K (subF l1 l2 k1 k2)):CallS Tryz.prog 41 [.ext (.agg #[u1,u2]),.ext (.agg #[v1,v2])] [] M [] K:=by
 refine inlS (cs:=[]) Tryz.mixed Tryz.func41 rfl (by kernel_rfl) 0 rfl rfl ?_
 simp only[Tryz.f41]
 unfold subF at hK
 have hf:=A4 ha.n.one ha.d.one hb.n.one hb.d.one;refine wS ?_;refine kN 55 (fcheck_ok ha.n ha.d ha.on ha.od ha.bn ha.bd (fun M1 m1=>sG ?_));all_goals clear hf
 have m1:Mem.le M M1:=m1
 have ha1:=ha.le m1
 have hb1:=hb.le m1
 refine Stop.go ?_
 cases hc1:chkF l1 l2 with
 | false=>
  rw[hc1]at hK
  refine wT (A4 ha1.n.one ha1.d.one hb1.n.one hb1.d.one) ?_
  exact hK.err _ m1
 | true=>
 have hf:=A4 ha1.n.one ha1.d.one hb1.n.one hb1.d.one;refine wS ?_;refine kN 55 (fcheck_ok hb1.n hb1.d hb1.on hb1.od hb1.bn hb1.bd (fun M2 m2=>sG ?_));all_goals clear hf
 have m2:Mem.le M1 M2:=m2
 have ha2:=ha1.le m2
 have hb2:=hb1.le m2
 have hm:=m1.trans m2
 refine Stop.go ?_
 cases hc2:chkF k1 k2 with
 | false=>
  rw[hc1,hc2]at hK
  refine wT (A4 ha2.n.one ha2.d.one hb2.n.one hb2.d.one) ?_
  exact hK.err _ hm
 | true=>
 rw[hc1,hc2,Bool.and_self,if_pos rfl]at hK
 obtain ⟨n1,d1,hn1,hd1,e1,e2,q1,q2,q3⟩:=ha2.num hc1
 obtain ⟨n2,d2,hn2,hd2,e3,e4,r1,r2,r3⟩:=hb2.num hc2
 rw[e1,e2,e3,e4]at hK
 have t1:=mul_len n1 d2
 have t2:=mul_len n2 d1
 have t3:=mul_len d1 d2
 have t4:=mul_len n1 n2
 have t0:0<d1*d2:=Nat.mul_pos q3 r3
 have hf:=A4 hn1.one hd1.one hn2.one hd2.one;refine sF ?_;(repeat' ((first|((with_reducible refine yN ?_);refine kS 57 (cross_ok hn1 hd1 hn2 hd2 (by omega) (by omega) (by omega) (by omega) (fun wx wy M3 m3 hx hy fx fy=>Stop.mk ?_)))|((with_reducible refine isE 28 (by decide) ?_);refine dR ((0,[]) :: (1,[]) :: (3,[]) :: (4,[]) :: (5,[4]) :: (6,[4]) :: (2,[4,6]) :: (rP 7 6 [] [])) (rgL 28 7 [37,38]) [] ?_)|refine oB ?_|fail)<;>refine sF ?_<;>try with_reducible exact tT))<;>try clear hf
 have m3:Mem.le M2 M3:=m3
 have hn1:=hn1.le m3
 have hd1:=hd1.le m3
 have hn2:=hn2.le m3
 have hd2:=hd2.le m3
 have fx:=fx.le hm
 have fy:=fy.le hm
 have hm:=hm.trans m3
 refine Stop.go ?_
 by_cases hlt:n1*d2<n2*d1
 ·have z1:decide (cmpN (n1*d2) (n2*d1)<0)=true:=by rw[cmpN_lt hlt];decide
  rw[if_pos hlt]at hK
  have hf:=A7 hn1.one hd1.one hn2.one hd2.one hx.one hy.one z1;refine sF ?_;(repeat' ((first|((with_reducible refine yN ?_);refine kS 56 (compare_ok wx wy _ _ hx hy (by omega) (by omega) ?_))|refine oB ?_|fail)<;>refine sF ?_<;>try with_reducible exact tT))<;>try clear hf
  exact hK.err _ hm
 have z1:decide (cmpN (n1*d2) (n2*d1)<0)=false:=by
  rw[decide_eq_false_iff_not];unfold cmpN;rw[if_neg hlt];split<;>omega
 rw[if_neg hlt]at hK
 have t5:=len_mono (show n1*d2-n2*d1≤n1*d2 by omega)
 have hf:=A7 hn1.one hd1.one hn2.one hd2.one hx.one hy.one z1;refine sF ?_;(repeat' ((first|((with_reducible first|refine yN ?_|refine yM ?_);first|refine kS 56 (compare_ok wx wy _ _ hx hy (by omega) (by omega) ?_)|refine kS 80 (sub_ok wx wy _ _ hx hy (by omega) (by omega) (fun ws M4 m4 hs fs=>Stop.mk ?_)))|((with_reducible refine isE 28 (by decide) ?_);refine dR ((0,[]) :: (1,[]) :: (3,[]) :: (4,[]) :: (5,[4]) :: (6,[4]) :: (2,[4,6]) :: (rP 7 6 [] [])) (rgL 28 7 [37,38]) [] ?_)|refine oB ?_|fail)<;>refine sF ?_<;>try with_reducible exact tT))<;>try clear hf
 have m4:Mem.le M3 M4:=m4
 have hn1:=hn1.le m4
 have hd1:=hd1.le m4
 have hn2:=hn2.le m4
 have hd2:=hd2.le m4
 have hx:=hx.le m4
 have hy:=hy.le m4
 have fs:=fs.le hm
 have hm:=hm.trans m4
 refine Stop.go ?_
 have hf:=A7 hn1.one hd1.one hn2.one hd2.one hx.one hy.one hs.one;refine sF ?_;(repeat' ((first|((with_reducible refine yM ?_);refine kS 77 (mul_ok u2 v2 d1 d2 hd1 hd2 (by omega) (by omega) (fun wp M5 m5 hp fp=>Stop.mk ?_)))|((with_reducible refine isE 28 (by decide) ?_);refine dR ((0,[]) :: (1,[]) :: (3,[]) :: (4,[]) :: (5,[4]) :: (6,[4]) :: (2,[4,6]) :: (rP 7 6 [] [])) (rgL 28 7 [37,38]) [] ?_)|refine oB ?_|fail)<;>refine sF ?_<;>try with_reducible exact tT))<;>try clear hf
 have m5:Mem.le M4 M5:=m5
 have hn1:=hn1.le m5
 have hd1:=hd1.le m5
 have hn2:=hn2.le m5
 have hd2:=hd2.le m5
 have hx:=hx.le m5
 have hy:=hy.le m5
 have hs:=hs.le m5
 have fp:=fp.le hm
 have hm:=hm.trans m5
 refine Stop.go ?_
 have hf:=A8 hn1.one hd1.one hn2.one hd2.one hx.one hy.one hs.one hp.one;refine sF ?_;(repeat' ((first|((with_reducible refine yM ?_);refine kS 75 (exact_ok ws wp _ _ hs hp (by omega) (by omega) t0 (fun w1 w2 M6 m6 h1 h2 f1 f2=>Stop.mk ?_)))|((with_reducible refine isE 28 (by decide) ?_);refine dR ((0,[]) :: (1,[]) :: (3,[]) :: (4,[]) :: (5,[4]) :: (6,[4]) :: (2,[4,6]) :: (rP 7 6 [] [])) (rgL 28 7 [37,38]) [] ?_)|refine oB ?_|fail)<;>refine sF ?_<;>try with_reducible exact tT))<;>try clear hf
 have m6:Mem.le M5 M6:=m6
 have hn1:=hn1.le m6
 have hd1:=hd1.le m6
 have hn2:=hn2.le m6
 have hd2:=hd2.le m6
 have hx:=hx.le m6
 have hy:=hy.le m6
 have hs:=hs.le m6
 have hp:=hp.le m6
 have f1:=f1.le hm
 have f2:=f2.le hm
 have hm:=hm.trans m6
 refine wG (A10 hn1.one hd1.one hn2.one hd2.one hx.one hy.one hs.one hp.one h1.one h2.one) ?_
 exact hK _ _ _ hm h1 h2 f1 f2
end
section
variable {M:Mem}{K:AV→Hp→Mem→Prop}
def plSt(M:Mem)(u v:Value)(i c:Nat)(out:List Nat):St:={env:=[(7,.ext (.int .i64 (i:Int))),(6,.ext (.int .u64 (c:Int))),(5,.slo 90 0 i 1),(0,.ext u),(1,.ext v)],hp:=[(90,79,cE u32V out)],M:=M,kb:=0,fx:=[]}
def plI(M:Mem)(u v:Value)(x y m:Nat)(d:Nat)(z:St):Prop:=∃i c out,d=m+1-i∧i≤m+1∧(m<i→c=0)∧out.length=i∧okN out∧c≤1∧valN out+wN out.length*c=valN ((ofN x).take i)+valN ((ofN y).take i)∧z=plSt M u v i c out
theorem plus_ok(u v:Value)(x y:Nat)(hu:IsL M u32V u (ofN x))(hv:IsL M u32V v (ofN y))(hx:(ofN x).length<100000000)(hy:(ofN y).length<100000000)(hK:NatK M K (x+y)):CallS Tryz.prog 178 [.ext u,.ext v] [] M [] K:=by
 refine inlS (cs:=[]) Tryz.mixed Tryz.func178 rfl (by kernel_rfl) 0 rfl rfl ?_
 simp only[Tryz.f178]
 refine Go1.mk ?_;repeat' ((first|(with_reducible refine Go1.go ?_)|(refine And.intro ?_ ?_;(try simp only[sxO]at *);omega)|fail)<;>(try simp (maxSteps:=1000000) only [cE_ment,hasK_nil,cE_kill,cE_len,u32_one,u32_app1,u32_set,Nat.mul_one,hu.one,hv.one,↓hold_pre,awayP,runOps,regK,step1,newK,genR,appR,obl,buildR,Value.cells,closeK,keepH,outV,retK,ret1,retC,RetV,Option.getD,runD,stepD,afterK,undef,Int.reduceAdd,Int.reduceEq,Int.reduceGE,Int.reduceGT,Int.reduceLE,Int.reduceLT,Int.reduceMul,Int.reduceNe,Int.reduceNeg,Int.reduceSub,Int.reduceToNat,Nat.reduceAdd,Nat.reduceBEq,Nat.reduceBeqDiff,Nat.reduceEqDiff,Nat.reduceLT,Nat.reduceLeDiff,Nat.reduceMul,Nat.reduceSub,reduceCtorEq,↓reduceIte,sxB,↓sxD,sxE,sxTab]))
 obtain ⟨m,hm⟩:∃m,max (ofN x).length (ofN y).length=m:=⟨_,rfl⟩
 refine ⟨plI M u v x y m,⟨m+1,plSt M u v 0 0 [],(le_nil 5 90 79 1 rfl (.inl rfl)).trans (le_sub ⟨rfl,rfl,rfl,rfl,rfl,trivial⟩ ⟨rfl,trivial⟩ rfl rfl rfl (keepLt0 _)),⟨0,0,[],rfl,by omega,fun _=>rfl,rfl,by simp[okN],by omega,by simp[valN],rfl⟩⟩,?_⟩
 rintro d z ⟨i,c,out,rfl,hi,hcz,hlo,ho,hc,hval,rfl⟩
 have fin:∀(a b:Nat) (s:St),i≤m→((ofN x).getD i 0=a)→((ofN y).getD i 0=b)→(m=i→a=0∧b=0)→a<4294967296→b<4294967296→
   lk s.env 7=.ext (.int .i64 ((i+1:Nat):Int))→lk s.env 6=.ext (.int .u64 (((a+c+b) / 4294967296:Nat):Int))→lk s.env 5=.slo 90 0 (i+1) 1→lk s.env 0=.ext u→lk s.env 1=.ext v→lkH s.hp 90=some (79,cE u32V (out++[(a+c+b) % 4294967296]))→s.M=M→s.kb=0→s.fx=[]→
   ∃m' z,m'<m+1-i∧Le s z∧plI M u v x y m m' z:=fun a b s him ha hb h0 ha2 hb2 e7 e6 e5 e0 e1 eh eM ek ef=>
  ⟨m+1-(i+1),plSt M u v (i+1) ((a+c+b) / 4294967296) (out++[(a+c+b) % 4294967296]),by omega,le_sub ⟨e7,e6,e5,e0,e1,trivial⟩ ⟨eh,trivial⟩ eM.symm ek.symm ef.symm (by rw[ek];exact keepLt0 _),i+1,_,_,rfl,by omega,fun hmi=>by
   obtain ⟨r1,r2⟩:=h0 (by omega)
   omega,by simp[hlo],okN_mod _ _ ho,by omega,by
   have st:=add_step (x:=a) (y:=b) hval
   rw[hlo]at st
   rw[take_val,take_val,ha,hb,List.length_append,List.length_singleton,hlo]
   exact st,rfl⟩
 have wi:IntKind.i64.wrap ((i:Int)+1)=((i+1:Nat):Int):=succ_i (by omega)
 by_cases ha:i<(ofN x).length
 ·have hxi:=hu.idx (P:=Tryz.prog) (T:=79) tk79 tz79 (by omega) ha
  have hx0:=ofN_ok_at ha
  have hgx:(ofN x).getD i 0=(ofN x)[i]:=by simp[List.getD,ha]
  generalize (ofN x)[i]=a at *
  have w1:IntKind.u64.wrap (a:Int)=(a:Int):=wrap64_id (by omega)
  have w2:IntKind.u64.wrap ((c:Int)+(a:Int))=((a+c:Nat):Int):=by rw[←Int.natCast_add,Nat.add_comm,wrap64_id (by omega)]
  by_cases hb:i<(ofN y).length
  ·have hyi:=hv.idx (P:=Tryz.prog) (T:=79) tk79 tz79 (by omega) hb
   have hy0:=ofN_ok_at hb
   have hgy:(ofN y).getD i 0=(ofN y)[i]:=by simp[List.getD,hb]
   generalize (ofN y)[i]=b at *
   have w3:IntKind.u64.wrap (b:Int)=(b:Int):=wrap64_id (by omega)
   have w4:IntKind.u64.wrap (((a+c:Nat):Int)+(b:Int))=((a+c+b:Nat):Int):=by rw[←Int.natCast_add,wrap64_id (by omega)]
   have w5:=wrap32 (a+c+b)
   have w6:=shr32 (a+c+b)
   refine Go1.mk ?_;repeat' ((first|(with_reducible refine Go1.go ?_)|(refine And.intro ?_ ?_;(try simp only[sxO]at *);omega)|fail)<;>(try simp (maxSteps:=1000000) only [cE_ment,hasK_nil,cE_kill,cE_len,u32_one,u32_app1,u32_set,Nat.mul_one,plSt,u32V,hu.one,hv.one,hu.len,hu.sl,hv.len,hv.sl,hxi,hyi,w1,w2,w3,w4,w5,w6,hlo,↓hold_pre,awayP,runOps,regK,step1,newK,genR,appR,obl,buildR,Value.cells,closeK,keepH,outV,retK,ret1,retC,RetV,Option.getD,runD,stepD,afterK,undef,Int.reduceAdd,Int.reduceEq,Int.reduceGE,Int.reduceGT,Int.reduceLE,Int.reduceLT,Int.reduceMul,Int.reduceNe,Int.reduceNeg,Int.reduceSub,Int.reduceToNat,Nat.reduceAdd,Nat.reduceBEq,Nat.reduceBeqDiff,Nat.reduceEqDiff,Nat.reduceLT,Nat.reduceLeDiff,Nat.reduceMul,Nat.reduceSub,reduceCtorEq,↓reduceIte,sxB,↓sxD,sxE,sxTab]))
   exact fin a b _ (by omega) hgx hgy (fun h=>by omega) hx0 hy0 rfl rfl rfl rfl rfl rfl rfl rfl rfl
  ·have hyl:=hv.fin (i:=i) hb
   have hgy:(ofN y).getD i 0=0:=by simp[List.getD,List.getElem?_eq_none (show (ofN y).length≤i by omega)]
   have w5:=wrap32 (a+c)
   have w6:=shr32 (a+c)
   refine Go1.mk ?_;repeat' ((first|(with_reducible refine Go1.go ?_)|(refine And.intro ?_ ?_;(try simp only[sxO]at *);omega)|fail)<;>(try simp (maxSteps:=1000000) only [cE_ment,hasK_nil,cE_kill,cE_len,u32_one,u32_app1,u32_set,Nat.mul_one,plSt,u32V,hu.one,hv.one,hu.len,hu.sl,hv.len,hv.sl,hxi,hyl,w1,w2,w5,w6,hlo,↓hold_pre,awayP,runOps,regK,step1,newK,genR,appR,obl,buildR,Value.cells,closeK,keepH,outV,retK,ret1,retC,RetV,Option.getD,runD,stepD,afterK,undef,Int.reduceAdd,Int.reduceEq,Int.reduceGE,Int.reduceGT,Int.reduceLE,Int.reduceLT,Int.reduceMul,Int.reduceNe,Int.reduceNeg,Int.reduceSub,Int.reduceToNat,Nat.reduceAdd,Nat.reduceBEq,Nat.reduceBeqDiff,Nat.reduceEqDiff,Nat.reduceLT,Nat.reduceLeDiff,Nat.reduceMul,Nat.reduceSub,reduceCtorEq,↓reduceIte,sxB,↓sxD,sxE,sxTab]))
   exact fin a 0 _ (by omega) hgx hgy (fun h=>by omega) hx0 (by decide) rfl rfl rfl rfl rfl rfl rfl rfl rfl
 ·have hxl:=hu.fin (i:=i) ha
  have hgx:(ofN x).getD i 0=0:=by simp[List.getD,List.getElem?_eq_none (show (ofN x).length≤i by omega)]
  by_cases hb:i<(ofN y).length
  ·have hyi:=hv.idx (P:=Tryz.prog) (T:=79) tk79 tz79 (by omega) hb
   have hy0:=ofN_ok_at hb
   have hgy:(ofN y).getD i 0=(ofN y)[i]:=by simp[List.getD,hb]
   generalize (ofN y)[i]=b at *
   have w3:IntKind.u64.wrap (b:Int)=(b:Int):=wrap64_id (by omega)
   have w4:IntKind.u64.wrap ((c:Int)+(b:Int))=((c+b:Nat):Int):=by rw[←Int.natCast_add,wrap64_id (by omega)]
   have w5:=wrap32 (c+b)
   have w6:=shr32 (c+b)
   refine Go1.mk ?_;repeat' ((first|(with_reducible refine Go1.go ?_)|(refine And.intro ?_ ?_;(try simp only[sxO]at *);omega)|fail)<;>(try simp (maxSteps:=1000000) only [cE_ment,hasK_nil,cE_kill,cE_len,u32_one,u32_app1,u32_set,Nat.mul_one,plSt,u32V,hu.one,hv.one,hu.len,hu.sl,hv.len,hv.sl,hxl,hyi,wi,w3,w4,w5,w6,hlo,↓hold_pre,awayP,runOps,regK,step1,newK,genR,appR,obl,buildR,Value.cells,closeK,keepH,outV,retK,ret1,retC,RetV,Option.getD,runD,stepD,afterK,undef,Int.reduceAdd,Int.reduceEq,Int.reduceGE,Int.reduceGT,Int.reduceLE,Int.reduceLT,Int.reduceMul,Int.reduceNe,Int.reduceNeg,Int.reduceSub,Int.reduceToNat,Nat.reduceAdd,Nat.reduceBEq,Nat.reduceBeqDiff,Nat.reduceEqDiff,Nat.reduceLT,Nat.reduceLeDiff,Nat.reduceMul,Nat.reduceSub,reduceCtorEq,↓reduceIte,sxB,↓sxD,sxE,sxTab]))
   exact fin 0 b _ (by omega) hgx hgy (fun h=>by omega) (by decide) hy0 rfl (by rw[Nat.zero_add];rfl) rfl rfl rfl (by rw[Nat.zero_add];rfl) rfl rfl rfl
  ·have hyl:=hv.fin (i:=i) hb
   have hgy:(ofN y).getD i 0=0:=by simp[List.getD,List.getElem?_eq_none (show (ofN y).length≤i by omega)]
   by_cases h0:c=0
   ·subst h0
    have d1:decide ((0:Int)<((0:Nat):Int))=false:=by decide
    have hv2:valN out=x+y:=by
     rw[Nat.mul_zero,Nat.add_zero,take_all (l:=ofN x) (by omega),take_all (l:=ofN y) (by omega),valN_ofN,valN_ofN]at hval
     exact hval
    refine Go1.mk ?_;repeat' ((first|(with_reducible refine Go1.go ?_)|((with_reducible refine isCall (f:=170) ?_);refine callA ?_)|((with_reducible refine isCallS (f:=170) ?_);refine (rtrim_bor 90 i _ out hlo.symm ho (by omega) (fun w M' g1 g2 g3=>Stop.mk ?_)))|(refine And.intro ?_ ?_;(try simp only[sxO]at *);omega)|fail)<;>(try simp (maxSteps:=1000000) only [cE_ment,hasK_nil,cE_kill,cE_len,u32_one,u32_app1,u32_set,Nat.mul_one,plSt,u32V,hu.one,hv.one,hu.len,hu.sl,hv.len,hv.sl,hxl,hyl,d1,hlo,↓hold_pre,awayP,runOps,regK,step1,newK,genR,appR,obl,buildR,Value.cells,closeK,keepH,outV,retK,ret1,retC,RetV,Option.getD,runD,stepD,afterK,undef,Int.reduceAdd,Int.reduceEq,Int.reduceGE,Int.reduceGT,Int.reduceLE,Int.reduceLT,Int.reduceMul,Int.reduceNe,Int.reduceNeg,Int.reduceSub,Int.reduceToNat,Nat.reduceAdd,Nat.reduceBEq,Nat.reduceBeqDiff,Nat.reduceEqDiff,Nat.reduceLT,Nat.reduceLeDiff,Nat.reduceMul,Nat.reduceSub,reduceCtorEq,↓reduceIte,sxB,↓sxD,sxE,sxTab]))
    rw[hv2]at g2
    refine Stop.go ?_
    refine Go1.mk ?_;repeat' ((first|(with_reducible refine Go1.go ?_)|(refine And.intro ?_ ?_;(try simp only[sxO]at *);omega)|fail)<;>(try simp (maxSteps:=1000000) only [cE_ment,hasK_nil,cE_kill,cE_len,u32_one,u32_app1,u32_set,Nat.mul_one,g2.one,↓hold_pre,awayP,runOps,regK,step1,newK,genR,appR,obl,buildR,Value.cells,closeK,keepH,outV,retK,ret1,retC,RetV,Option.getD,runD,stepD,afterK,undef,Int.reduceAdd,Int.reduceEq,Int.reduceGE,Int.reduceGT,Int.reduceLE,Int.reduceLT,Int.reduceMul,Int.reduceNe,Int.reduceNeg,Int.reduceSub,Int.reduceToNat,Nat.reduceAdd,Nat.reduceBEq,Nat.reduceBeqDiff,Nat.reduceEqDiff,Nat.reduceLT,Nat.reduceLeDiff,Nat.reduceMul,Nat.reduceSub,reduceCtorEq,↓reduceIte,sxB,↓sxD,sxE,sxTab]))
    exact hK _ _ g1 g2 g3
   ·obtain rfl:c=1:=by omega
    have d1:decide ((0:Int)<((1:Nat):Int))=true:=by decide
    have him:i≤m:=by
     rcases Nat.lt_or_ge m i with h|h
     ·exact absurd (hcz h) h0
     ·exact h
    have w5:IntKind.u32.wrap ((1:Nat):Int)=(((0+1+0) % 4294967296:Nat):Int):=rfl
    have w6:((1:Nat):Int).fdiv (2^(min 32 IntKind.u64.bits))=(((0+1+0) / 4294967296:Nat):Int):=shr32 1
    refine Go1.mk ?_;repeat' ((first|(with_reducible refine Go1.go ?_)|(refine And.intro ?_ ?_;(try simp only[sxO]at *);omega)|fail)<;>(try simp (maxSteps:=1000000) only [cE_ment,hasK_nil,cE_kill,cE_len,u32_one,u32_app1,u32_set,Nat.mul_one,plSt,u32V,hu.one,hv.one,hu.len,hu.sl,hv.len,hv.sl,hxl,hyl,wi,d1,w5,w6,hlo,↓hold_pre,awayP,runOps,regK,step1,newK,genR,appR,obl,buildR,Value.cells,closeK,keepH,outV,retK,ret1,retC,RetV,Option.getD,runD,stepD,afterK,undef,Int.reduceAdd,Int.reduceEq,Int.reduceGE,Int.reduceGT,Int.reduceLE,Int.reduceLT,Int.reduceMul,Int.reduceNe,Int.reduceNeg,Int.reduceSub,Int.reduceToNat,Nat.reduceAdd,Nat.reduceBEq,Nat.reduceBeqDiff,Nat.reduceEqDiff,Nat.reduceLT,Nat.reduceLeDiff,Nat.reduceMul,Nat.reduceSub,reduceCtorEq,↓reduceIte,sxB,↓sxD,sxE,sxTab]))
    exact fin 0 0 _ him hgx hgy (fun _=>⟨rfl,rfl⟩) (by decide) (by decide) rfl rfl rfl rfl rfl rfl rfl rfl rfl
def mnSt(M:Mem)(u v:Value)(i b:Nat)(out:List Nat):St:={env:=[(7,.ext (.int .i64 (i:Int))),(6,.ext (.int .u64 (b:Int))),(5,.slo 90 0 i 1),(0,.ext u),(1,.ext v)],hp:=[(90,79,cE u32V out)],M:=M,kb:=0,fx:=[]}
def mnI(M:Mem)(u v:Value)(x y m:Nat)(d:Nat)(z:St):Prop:=∃i b out,d=m-i∧i≤m∧out.length=i∧okN out∧b≤1∧valN out+valN ((ofN y).take i)=valN ((ofN x).take i)+wN out.length*b∧z=mnSt M u v i b out
theorem minus_ok(u v:Value)(x y:Nat)(hu:IsL M u32V u (ofN x))(hv:IsL M u32V v (ofN y))(hx:(ofN x).length<100000000)(hyx:y≤x)(hK:NatK M K (x-y)):CallS Tryz.prog 165 [.ext u,.ext v] [] M [] K:=by
 have hlen:(ofN y).length≤(ofN x).length:=len_mono hyx
 refine inlS (cs:=[]) Tryz.mixed Tryz.func165 rfl (by kernel_rfl) 0 rfl rfl ?_
 simp only[Tryz.f165]
 refine Go1.mk ?_;repeat' ((first|(with_reducible refine Go1.go ?_)|(refine And.intro ?_ ?_;(try simp only[sxO]at *);omega)|fail)<;>(try simp (maxSteps:=1000000) only [cE_ment,hasK_nil,cE_kill,cE_len,u32_one,u32_app1,u32_set,Nat.mul_one,hu.one,hv.one,↓hold_pre,awayP,runOps,regK,step1,newK,genR,appR,obl,buildR,Value.cells,closeK,keepH,outV,retK,ret1,retC,RetV,Option.getD,runD,stepD,afterK,undef,Int.reduceAdd,Int.reduceEq,Int.reduceGE,Int.reduceGT,Int.reduceLE,Int.reduceLT,Int.reduceMul,Int.reduceNe,Int.reduceNeg,Int.reduceSub,Int.reduceToNat,Nat.reduceAdd,Nat.reduceBEq,Nat.reduceBeqDiff,Nat.reduceEqDiff,Nat.reduceLT,Nat.reduceLeDiff,Nat.reduceMul,Nat.reduceSub,reduceCtorEq,↓reduceIte,sxB,↓sxD,sxE,sxTab]))
 refine ⟨mnI M u v x y (ofN x).length,⟨(ofN x).length,mnSt M u v 0 0 [],(le_nil 5 90 79 1 rfl (.inl rfl)).trans (le_sub ⟨rfl,rfl,rfl,rfl,rfl,trivial⟩ ⟨rfl,trivial⟩ rfl rfl rfl (keepLt0 _)),⟨0,0,[],rfl,by omega,rfl,by simp[okN],by omega,by simp[valN],rfl⟩⟩,?_⟩
 rintro d z ⟨i,b,out,rfl,hi,hlo,ho,hb,hval,rfl⟩
 by_cases ha:i<(ofN x).length
 case neg=>
  have hxl:=hu.fin (i:=i) ha
  obtain rfl:i=(ofN x).length:=by omega
  rw[take_all (l:=ofN y) hlen,take_all (l:=ofN x) (by omega),valN_ofN,valN_ofN]at hval
  have hv2:=sub_end ho hval hyx
  refine Go1.mk ?_;repeat' ((first|(with_reducible refine Go1.go ?_)|((with_reducible refine isCall (f:=170) ?_);refine callA ?_)|((with_reducible refine isCallS (f:=170) ?_);refine (rtrim_bor 90 (ofN x).length _ out hlo.symm ho (by omega) (fun w M' g1 g2 g3=>Stop.mk ?_)))|(refine And.intro ?_ ?_;(try simp only[sxO]at *);omega)|fail)<;>(try simp (maxSteps:=1000000) only [cE_ment,hasK_nil,cE_kill,cE_len,u32_one,u32_app1,u32_set,Nat.mul_one,mnSt,u32V,hu.one,hv.one,hxl,hlo,↓hold_pre,awayP,runOps,regK,step1,newK,genR,appR,obl,buildR,Value.cells,closeK,keepH,outV,retK,ret1,retC,RetV,Option.getD,runD,stepD,afterK,undef,Int.reduceAdd,Int.reduceEq,Int.reduceGE,Int.reduceGT,Int.reduceLE,Int.reduceLT,Int.reduceMul,Int.reduceNe,Int.reduceNeg,Int.reduceSub,Int.reduceToNat,Nat.reduceAdd,Nat.reduceBEq,Nat.reduceBeqDiff,Nat.reduceEqDiff,Nat.reduceLT,Nat.reduceLeDiff,Nat.reduceMul,Nat.reduceSub,reduceCtorEq,↓reduceIte,sxB,↓sxD,sxE,sxTab]))
  rw[hv2]at g2
  refine Stop.go ?_
  refine Go1.mk ?_;repeat' ((first|(with_reducible refine Go1.go ?_)|(refine And.intro ?_ ?_;(try simp only[sxO]at *);omega)|fail)<;>(try simp (maxSteps:=1000000) only [cE_ment,hasK_nil,cE_kill,cE_len,u32_one,u32_app1,u32_set,Nat.mul_one,g2.one,↓hold_pre,awayP,runOps,regK,step1,newK,genR,appR,obl,buildR,Value.cells,closeK,keepH,outV,retK,ret1,retC,RetV,Option.getD,runD,stepD,afterK,undef,Int.reduceAdd,Int.reduceEq,Int.reduceGE,Int.reduceGT,Int.reduceLE,Int.reduceLT,Int.reduceMul,Int.reduceNe,Int.reduceNeg,Int.reduceSub,Int.reduceToNat,Nat.reduceAdd,Nat.reduceBEq,Nat.reduceBeqDiff,Nat.reduceEqDiff,Nat.reduceLT,Nat.reduceLeDiff,Nat.reduceMul,Nat.reduceSub,reduceCtorEq,↓reduceIte,sxB,↓sxD,sxE,sxTab]))
  exact hK _ _ g1 g2 g3
 have hxi:=hu.idx (P:=Tryz.prog) (T:=79) tk79 tz79 (by omega) ha
 have hx0:=ofN_ok_at ha
 have hgx:(ofN x).getD i 0=(ofN x)[i]:=by simp[List.getD,ha]
 generalize (ofN x)[i]=a at *
 have w1:IntKind.u64.wrap (a:Int)=(a:Int):=wrap64_id (by omega)
 have fin:∀(yy r b':Nat) (s:St),(ofN y).getD i 0=yy→r<4294967296→b'≤1→r+yy+b=a+4294967296*b'→
   lk s.env 7=.ext (.int .i64 ((i+1:Nat):Int))→lk s.env 6=.ext (.int .u64 (b':Int))→lk s.env 5=.slo 90 0 (i+1) 1→lk s.env 0=.ext u→lk s.env 1=.ext v→lkH s.hp 90=some (79,cE u32V (out++[r]))→s.M=M→s.kb=0→s.fx=[]→
   ∃m' z,m'<(ofN x).length-i∧Le s z∧mnI M u v x y (ofN x).length m' z:=fun yy r b' s hy hr hb' heq e7 e6 e5 e0 e1 eh eM ek ef=>
  ⟨(ofN x).length - (i + 1), mnSt M u v (i + 1) b' (out ++ [r]), by omega, le_sub ⟨e7, e6, e5, e0, e1, trivial⟩ ⟨eh, trivial⟩ eM.symm ek.symm ef.symm (by rw [ek]; exact keepLt0 _), i + 1, _, _, rfl, by omega, by simp [hlo], okN_app.2 ⟨ho, okN_one hr⟩, hb', by
    have st:=sub_step hval heq
    rw[hlo]at st
    rw[take_val,take_val,hgx,hy,List.length_append,List.length_singleton,hlo];exact st,rfl⟩
 have z0:IntKind.u64.wrap (0*2^(min 32 IntKind.u64.bits))=0:=rfl
 have z1:IntKind.u64.wrap (1*2^(min 32 IntKind.u64.bits))=4294967296:=rfl
 have a0:IntKind.u64.wrap ((a:Int)+0)=(a:Int):=by rw[Int.add_zero];exact w1
 have a1:IntKind.u64.wrap ((a:Int)+4294967296)=((a+4294967296:Nat):Int):=by
  rw[show (a:Int)+4294967296=((a+4294967296:Nat):Int) by omega,wrap64_id (by omega)]
 by_cases hbl:i<(ofN y).length
 ·have hyi:=hv.idx (P:=Tryz.prog) (T:=79) tk79 tz79 (by omega) hbl
  have hy0:=ofN_ok_at hbl
  have hgy:(ofN y).getD i 0=(ofN y)[i]:=by simp[List.getD,hbl]
  generalize (ofN y)[i]=yy at *
  have w3:IntKind.u64.wrap (yy:Int)=(yy:Int):=wrap64_id (by omega)
  have w4:IntKind.u64.wrap ((b:Int)+(yy:Int))=((b+yy:Nat):Int):=by rw[←Int.natCast_add,wrap64_id (by omega)]
  by_cases hlt:a<b+yy
  ·have d1:decide ((a:Int)<((b+yy:Nat):Int))=true:=by rw[decide_eq_true_eq];omega
   have w5:IntKind.u64.wrap (((a+4294967296:Nat):Int)-((b+yy:Nat):Int))=((a+4294967296-(b+yy):Nat):Int):=by rw[wrap64_i (by omega) (by omega)];omega
   have w6:IntKind.u32.wrap ((a+4294967296-(b+yy):Nat):Int)=((a+4294967296-(b+yy):Nat):Int):=wrap32_id (by omega)
   refine Go1.mk ?_;repeat' ((first|(with_reducible refine Go1.go ?_)|(refine And.intro ?_ ?_;(try simp only[sxO]at *);omega)|fail)<;>(try simp (maxSteps:=1000000) only [cE_ment,hasK_nil,cE_kill,cE_len,u32_one,u32_app1,u32_set,Nat.mul_one,mnSt,u32V,hu.one,hv.one,hxi,hyi,w1,w3,w4,w5,w6,d1,z1,a1,hlo,↓hold_pre,awayP,runOps,regK,step1,newK,genR,appR,obl,buildR,Value.cells,closeK,keepH,outV,retK,ret1,retC,RetV,Option.getD,runD,stepD,afterK,undef,Int.reduceAdd,Int.reduceEq,Int.reduceGE,Int.reduceGT,Int.reduceLE,Int.reduceLT,Int.reduceMul,Int.reduceNe,Int.reduceNeg,Int.reduceSub,Int.reduceToNat,Nat.reduceAdd,Nat.reduceBEq,Nat.reduceBeqDiff,Nat.reduceEqDiff,Nat.reduceLT,Nat.reduceLeDiff,Nat.reduceMul,Nat.reduceSub,reduceCtorEq,↓reduceIte,sxB,↓sxD,sxE,sxTab]))
   exact fin yy _ 1 _ hgy (by omega) (by omega) (by omega) rfl rfl rfl rfl rfl rfl rfl rfl rfl
  ·have d1:decide ((a:Int)<((b+yy:Nat):Int))=false:=by rw[decide_eq_false_iff_not];omega
   have w5:IntKind.u64.wrap ((a:Int)-((b+yy:Nat):Int))=((a-(b+yy):Nat):Int):=by rw[wrap64_i (by omega) (by omega)];omega
   have w6:IntKind.u32.wrap ((a-(b+yy):Nat):Int)=((a-(b+yy):Nat):Int):=wrap32_id (by omega)
   refine Go1.mk ?_;repeat' ((first|(with_reducible refine Go1.go ?_)|(refine And.intro ?_ ?_;(try simp only[sxO]at *);omega)|fail)<;>(try simp (maxSteps:=1000000) only [cE_ment,hasK_nil,cE_kill,cE_len,u32_one,u32_app1,u32_set,Nat.mul_one,mnSt,u32V,hu.one,hv.one,hxi,hyi,w1,w3,w4,w5,w6,d1,z0,a0,hlo,↓hold_pre,awayP,runOps,regK,step1,newK,genR,appR,obl,buildR,Value.cells,closeK,keepH,outV,retK,ret1,retC,RetV,Option.getD,runD,stepD,afterK,undef,Int.reduceAdd,Int.reduceEq,Int.reduceGE,Int.reduceGT,Int.reduceLE,Int.reduceLT,Int.reduceMul,Int.reduceNe,Int.reduceNeg,Int.reduceSub,Int.reduceToNat,Nat.reduceAdd,Nat.reduceBEq,Nat.reduceBeqDiff,Nat.reduceEqDiff,Nat.reduceLT,Nat.reduceLeDiff,Nat.reduceMul,Nat.reduceSub,reduceCtorEq,↓reduceIte,sxB,↓sxD,sxE,sxTab]))
   exact fin yy _ 0 _ hgy (by omega) (by omega) (by omega) rfl rfl rfl rfl rfl rfl rfl rfl rfl
 ·have hyl:=hv.fin (i:=i) hbl
  have hgy:(ofN y).getD i 0=0:=by simp[List.getD,List.getElem?_eq_none (show (ofN y).length≤i by omega)]
  by_cases hlt:a<b
  ·have d1:decide ((a:Int)<(b:Int))=true:=by rw[decide_eq_true_eq];omega
   have w5:IntKind.u64.wrap (((a+4294967296:Nat):Int)-(b:Int))=((a+4294967296-b:Nat):Int):=by rw[wrap64_i (by omega) (by omega)];omega
   have w6:IntKind.u32.wrap ((a+4294967296-b:Nat):Int)=((a+4294967296-b:Nat):Int):=wrap32_id (by omega)
   refine Go1.mk ?_;repeat' ((first|(with_reducible refine Go1.go ?_)|(refine And.intro ?_ ?_;(try simp only[sxO]at *);omega)|fail)<;>(try simp (maxSteps:=1000000) only [cE_ment,hasK_nil,cE_kill,cE_len,u32_one,u32_app1,u32_set,Nat.mul_one,mnSt,u32V,hu.one,hv.one,hxi,hyl,w1,w5,w6,d1,z1,a1,hlo,↓hold_pre,awayP,runOps,regK,step1,newK,genR,appR,obl,buildR,Value.cells,closeK,keepH,outV,retK,ret1,retC,RetV,Option.getD,runD,stepD,afterK,undef,Int.reduceAdd,Int.reduceEq,Int.reduceGE,Int.reduceGT,Int.reduceLE,Int.reduceLT,Int.reduceMul,Int.reduceNe,Int.reduceNeg,Int.reduceSub,Int.reduceToNat,Nat.reduceAdd,Nat.reduceBEq,Nat.reduceBeqDiff,Nat.reduceEqDiff,Nat.reduceLT,Nat.reduceLeDiff,Nat.reduceMul,Nat.reduceSub,reduceCtorEq,↓reduceIte,sxB,↓sxD,sxE,sxTab]))
   exact fin 0 _ 1 _ hgy (by omega) (by omega) (by omega) rfl rfl rfl rfl rfl rfl rfl rfl rfl
  ·have d1:decide ((a:Int)<(b:Int))=false:=by rw[decide_eq_false_iff_not];omega
   have w5:IntKind.u64.wrap ((a:Int)-(b:Int))=((a-b:Nat):Int):=by rw[wrap64_i (by omega) (by omega)];omega
   have w6:IntKind.u32.wrap ((a-b:Nat):Int)=((a-b:Nat):Int):=wrap32_id (by omega)
   refine Go1.mk ?_;repeat' ((first|(with_reducible refine Go1.go ?_)|(refine And.intro ?_ ?_;(try simp only[sxO]at *);omega)|fail)<;>(try simp (maxSteps:=1000000) only [cE_ment,hasK_nil,cE_kill,cE_len,u32_one,u32_app1,u32_set,Nat.mul_one,mnSt,u32V,hu.one,hv.one,hxi,hyl,w1,w5,w6,d1,z0,a0,hlo,↓hold_pre,awayP,runOps,regK,step1,newK,genR,appR,obl,buildR,Value.cells,closeK,keepH,outV,retK,ret1,retC,RetV,Option.getD,runD,stepD,afterK,undef,Int.reduceAdd,Int.reduceEq,Int.reduceGE,Int.reduceGT,Int.reduceLE,Int.reduceLT,Int.reduceMul,Int.reduceNe,Int.reduceNeg,Int.reduceSub,Int.reduceToNat,Nat.reduceAdd,Nat.reduceBEq,Nat.reduceBeqDiff,Nat.reduceEqDiff,Nat.reduceLT,Nat.reduceLeDiff,Nat.reduceMul,Nat.reduceSub,reduceCtorEq,↓reduceIte,sxB,↓sxD,sxE,sxTab]))
   exact fin 0 _ 0 _ hgy (by omega) (by omega) (by omega) rfl rfl rfl rfl rfl rfl rfl rfl rfl
def tmSt(M:Mem)(u v:Value)(n i:Nat)(out:List Nat):St:={env:=[(6,.ext (.int .i64 (i:Int))),(5,.slo 14 0 n 1),(0,.ext u),(1,.ext v)],hp:=[(14,79,cE u32V out)],M:=M,kb:=0,fx:=[]}
def tiSt(M:Mem)(u v:Value)(n i k c:Nat)(out:List Nat):St:={env:=[(8,.ext (.int .i64 (k:Int))),(7,.ext (.int .u64 (c:Int))),(6,.ext (.int .i64 (i:Int))),(5,.slo 14 0 n 1),(0,.ext u),(1,.ext v)],hp:=[(14,79,cE u32V out)],M:=M,kb:=0,fx:=[]}
def tmI(M:Mem)(u v:Value)(x y la lb:Nat)(d:Nat)(z:St):Prop:=∃i out,d=la-i∧i≤la∧out.length=la+lb∧okN out∧valN out=valN ((ofN x).take i)*y∧(∀j (h:j<out.length),i+lb≤j→out[j]=0)∧z=tmSt M u v (la+lb) i out
def tiI(M:Mem)(u v:Value)(b:List Nat)(n i x lb:Nat)(out:List Nat)(d:Nat)(z:St):Prop:=∃k c o,d=lb+1-k∧k≤lb+1∧(lb<k→c=0)∧o.length=n∧okN o∧c<4294967296∧valN o+wN (i+k)*c=valN out+wN i*(x*valN (b.take k))∧(∀j (h:j<o.length) (h2:j<out.length),i+k≤j→o[j]=out[j])∧z=tiSt M u v n i k c o
theorem times_ok(u v:Value)(x y:Nat)(hu:IsL M u32V u (ofN x))(hv:IsL M u32V v (ofN y))(hx:(ofN x).length<100000000)(hy:(ofN y).length<100000000)(hK:NatK M K (x*y)):CallS Tryz.prog 134 [.ext u,.ext v] [] M [] K:=by
 refine inlS (cs:=[]) Tryz.mixed Tryz.func134 rfl (by kernel_rfl) 0 rfl rfl ?_
 simp only[Tryz.f134]
 generalize hl:(ofN x).length=la at *
 generalize hm:(ofN y).length=lb at *
 have w1:IntKind.i64.wrap ((la:Int)+(lb:Int))=((la+lb:Nat):Int):=by rw[wrap_id (by omega) (by omega)];omega
 refine Go1.mk ?_;repeat' ((first|(with_reducible refine Go1.go ?_)|((with_reducible refine isDraw [some 44,some 45,some 46,some 47,some 48,some 49,some 50,some 51,some 52,some 53,some 54,some 55,some 56,some 7] (by decide) ?_);refine draw_rule [(0,[]),(1,[]),(2,[]),(3,[]),(4,[]),(5,[]),(6,[4,5]),(7,[4,5]),(8,[4,5]),(9,[4,5]),(10,[4,5]),(11,[]),(12,[]),(13,[])] [[],[],[],[1,2],[1,2,3],[1,2,3,4],[],[],[6,7],[6,7,8],[6,7,8,9],[1,2,3,4,5,6,7,8,9,10],[0,1,2,3,4,5,6,7,8,9,10,11],[0,1,2,3,4,5,6,7,8,9,10,11,12]] [44,45,46,47,48,49,50,51,52,53,54,55] [] (by kernel_rfl) (by kernel_rfl) (by kernel_rfl) (by kernel_rfl) (by exact trivial) ?_)|(refine And.intro ?_ ?_;(try simp only[sxO]at *);omega)|fail)<;>(try simp (maxSteps:=1000000) only [cE_ment,hasK_nil,cE_kill,cE_len,u32_one,u32_app1,u32_set,Nat.mul_one,hu.one,hv.one,hu.len,hu.sl,hl,hv.len,hv.sl,hm,w1,↓hold_pre,awayP,runOps,regK,step1,newK,genR,appR,obl,buildR,Value.cells,closeK,keepH,outV,retK,ret1,retC,RetV,Option.getD,runD,stepD,afterK,undef,Int.reduceAdd,Int.reduceEq,Int.reduceGE,Int.reduceGT,Int.reduceLE,Int.reduceLT,Int.reduceMul,Int.reduceNe,Int.reduceNeg,Int.reduceSub,Int.reduceToNat,Nat.reduceAdd,Nat.reduceBEq,Nat.reduceBeqDiff,Nat.reduceEqDiff,Nat.reduceLT,Nat.reduceLeDiff,Nat.reduceMul,Nat.reduceSub,reduceCtorEq,↓reduceIte,sxB,↓sxD,sxE,sxTab]))
 have hz0:List.map AV.ext (repN [Value.int .u32 0] (la+lb))=cE u32V (List.replicate (la+lb) 0):=cE_rep u32V (la+lb) 0
 refine ⟨tmI M u v x y la lb,⟨la,tmSt M u v (la+lb) 0 (List.replicate (la+lb) 0),le_sub ⟨rfl,rfl,rfl,rfl,trivial⟩ (by simp[subHp,tmSt,lkH,hz0]) rfl rfl rfl (keepLt0 _),⟨0,_,rfl,by omega,by simp,okN_rep _,by rw[valN_rep];simp[valN],fun j h _=>by simp,rfl⟩⟩,?_⟩
 rintro d z ⟨i,out,rfl,hi,hlo,ho,hval,hzz,rfl⟩
 by_cases hlt:i<la
 case neg=>
  obtain rfl:i=la:=by omega
  have d1:decide ((i:Int)<(i:Int))=false:=by simp
  rw[take_all (by omega),valN_ofN]at hval
  refine Go1.mk ?_;repeat' ((first|(with_reducible refine Go1.go ?_)|((with_reducible refine isCall (f:=170) ?_);refine callA ?_)|((with_reducible refine isCallS (f:=170) ?_);refine (rtrim_bor 14 (i+lb) _ out hlo.symm ho (by omega) (fun w M' g1 g2 g3=>Stop.mk ?_)))|((with_reducible refine isDraw [some 44,some 45,some 46,some 47,some 48,some 49,some 50,some 51,some 52,some 53,some 54,some 55,some 56,some 7] (by decide) ?_);refine draw_rule [(0,[]),(1,[]),(2,[]),(3,[]),(4,[]),(5,[]),(6,[4,5]),(7,[4,5]),(8,[4,5]),(9,[4,5]),(10,[4,5]),(11,[]),(12,[]),(13,[])] [[],[],[],[1,2],[1,2,3],[1,2,3,4],[],[],[6,7],[6,7,8],[6,7,8,9],[1,2,3,4,5,6,7,8,9,10],[0,1,2,3,4,5,6,7,8,9,10,11],[0,1,2,3,4,5,6,7,8,9,10,11,12]] [44,45,46,47,48,49,50,51,52,53,54,55] [] (by kernel_rfl) (by kernel_rfl) (by kernel_rfl) (by kernel_rfl) (by exact trivial) ?_)|(refine And.intro ?_ ?_;(try simp only[sxO]at *);omega)|fail)<;>(try simp (maxSteps:=1000000) only [cE_ment,hasK_nil,cE_kill,cE_len,u32_one,u32_app1,u32_set,Nat.mul_one,tmSt,hu.one,hv.one,hu.len,hu.sl,hl,d1,hlo,↓hold_pre,awayP,runOps,regK,step1,newK,genR,appR,obl,buildR,Value.cells,closeK,keepH,outV,retK,ret1,retC,RetV,Option.getD,runD,stepD,afterK,undef,Int.reduceAdd,Int.reduceEq,Int.reduceGE,Int.reduceGT,Int.reduceLE,Int.reduceLT,Int.reduceMul,Int.reduceNe,Int.reduceNeg,Int.reduceSub,Int.reduceToNat,Nat.reduceAdd,Nat.reduceBEq,Nat.reduceBeqDiff,Nat.reduceEqDiff,Nat.reduceLT,Nat.reduceLeDiff,Nat.reduceMul,Nat.reduceSub,reduceCtorEq,↓reduceIte,sxB,↓sxD,sxE,sxTab]))
  rw[hval]at g2
  refine Stop.go ?_
  refine Go1.mk ?_;repeat' ((first|(with_reducible refine Go1.go ?_)|((with_reducible refine isDraw [some 44,some 45,some 46,some 47,some 48,some 49,some 50,some 51,some 52,some 53,some 54,some 55,some 56,some 7] (by decide) ?_);refine draw_rule [(0,[]),(1,[]),(2,[]),(3,[]),(4,[]),(5,[]),(6,[4,5]),(7,[4,5]),(8,[4,5]),(9,[4,5]),(10,[4,5]),(11,[]),(12,[]),(13,[])] [[],[],[],[1,2],[1,2,3],[1,2,3,4],[],[],[6,7],[6,7,8],[6,7,8,9],[1,2,3,4,5,6,7,8,9,10],[0,1,2,3,4,5,6,7,8,9,10,11],[0,1,2,3,4,5,6,7,8,9,10,11,12]] [44,45,46,47,48,49,50,51,52,53,54,55] [] (by kernel_rfl) (by kernel_rfl) (by kernel_rfl) (by kernel_rfl) (by exact trivial) ?_)|(refine And.intro ?_ ?_;(try simp only[sxO]at *);omega)|fail)<;>(try simp (maxSteps:=1000000) only [cE_ment,hasK_nil,cE_kill,cE_len,u32_one,u32_app1,u32_set,Nat.mul_one,g2.one,↓hold_pre,awayP,runOps,regK,step1,newK,genR,appR,obl,buildR,Value.cells,closeK,keepH,outV,retK,ret1,retC,RetV,Option.getD,runD,stepD,afterK,undef,Int.reduceAdd,Int.reduceEq,Int.reduceGE,Int.reduceGT,Int.reduceLE,Int.reduceLT,Int.reduceMul,Int.reduceNe,Int.reduceNeg,Int.reduceSub,Int.reduceToNat,Nat.reduceAdd,Nat.reduceBEq,Nat.reduceBeqDiff,Nat.reduceEqDiff,Nat.reduceLT,Nat.reduceLeDiff,Nat.reduceMul,Nat.reduceSub,reduceCtorEq,↓reduceIte,sxB,↓sxD,sxE,sxTab]))
  exact hK _ _ g1 g2 g3
 have hil:i<(ofN x).length:=by omega
 have hxi:=hu.idx (P:=Tryz.prog) (T:=79) tk79 tz79 (by omega) hil
 rw[hl]at hxi
 have hx0:(ofN x)[i]<4294967296:=ofN_ok_at hil
 have hgx:(ofN x).getD i 0=(ofN x)[i]:=by simp[List.getD,hil]
 have htk:=take_val (l:=ofN x) (i:=i)
 rw[hgx]at htk
 generalize (ofN x)[i]=a at *
 refine Go1.mk ?_;repeat' ((first|(with_reducible refine Go1.go ?_)|((with_reducible refine isDraw [some 44,some 45,some 46,some 47,some 48,some 49,some 50,some 51,some 52,some 53,some 54,some 55,some 56,some 7] (by decide) ?_);refine draw_rule [(0,[]),(1,[]),(2,[]),(3,[]),(4,[]),(5,[]),(6,[4,5]),(7,[4,5]),(8,[4,5]),(9,[4,5]),(10,[4,5]),(11,[]),(12,[]),(13,[])] [[],[],[],[1,2],[1,2,3],[1,2,3,4],[],[],[6,7],[6,7,8],[6,7,8,9],[1,2,3,4,5,6,7,8,9,10],[0,1,2,3,4,5,6,7,8,9,10,11],[0,1,2,3,4,5,6,7,8,9,10,11,12]] [44,45,46,47,48,49,50,51,52,53,54,55] [] (by kernel_rfl) (by kernel_rfl) (by kernel_rfl) (by kernel_rfl) (by exact trivial) ?_)|(refine And.intro ?_ ?_;(try simp only[sxO]at *);omega)|fail)<;>(try simp (maxSteps:=1000000) only [cE_ment,hasK_nil,cE_kill,cE_len,u32_one,u32_app1,u32_set,Nat.mul_one,tmSt,hu.one,hv.one,hu.len,hu.sl,hl,hxi,hlo,↓hold_pre,awayP,runOps,regK,step1,newK,genR,appR,obl,buildR,Value.cells,closeK,keepH,outV,retK,ret1,retC,RetV,Option.getD,runD,stepD,afterK,undef,Int.reduceAdd,Int.reduceEq,Int.reduceGE,Int.reduceGT,Int.reduceLE,Int.reduceLT,Int.reduceMul,Int.reduceNe,Int.reduceNeg,Int.reduceSub,Int.reduceToNat,Nat.reduceAdd,Nat.reduceBEq,Nat.reduceBeqDiff,Nat.reduceEqDiff,Nat.reduceLT,Nat.reduceLeDiff,Nat.reduceMul,Nat.reduceSub,reduceCtorEq,↓reduceIte,sxB,↓sxD,sxE,sxTab]))
 refine ⟨tiI M u v (ofN y) (la+lb) i a lb out,⟨lb+1,tiSt M u v (la+lb) i 0 0 out,le_sub ⟨rfl,rfl,rfl,rfl,rfl,rfl,trivial⟩ ⟨rfl,trivial⟩ rfl rfl rfl (keepLt0 _),⟨0,0,out,rfl,by omega,fun _=>rfl,hlo,ho,by omega,by simp[valN],fun j h h2 _=>rfl,rfl⟩⟩,?_⟩
 rintro d z ⟨k,c,o,rfl,hk,hcz,hlo2,hoo,hc,hv2,hrest,rfl⟩
 have w2:IntKind.i64.wrap ((i:Int)+(k:Int))=((i+k:Nat):Int):=by rw[wrap_id (by omega) (by omega)];omega
 have w3:IntKind.i64.wrap ((k:Int)+1)=((k+1:Nat):Int):=succ_i (by omega)
 have w4:IntKind.i64.wrap ((i:Int)+1)=((i+1:Nat):Int):=succ_i (by omega)
 by_cases hkl:k<lb
 ·have hky:k<(ofN y).length:=by omega
  have hyi:=hv.idx (P:=Tryz.prog) (T:=79) tk79 tz79 (by omega) hky
  rw[hm]at hyi
  have hy0:=ofN_ok_at hky
  have hgy:(ofN y).getD k 0=(ofN y)[k]:=by simp[List.getD,hky]
  have hik:i+k<o.length:=by omega
  have ho0:=okN_at hoo hik
  have hat:=u32_at hik
  have hst:=mul_step (x:=a) (y:=(ofN y)[k]) hik hv2
  have hlt2:=mul_lt hx0 hy0 ho0 hc
  generalize (ofN y)[k]=yy at *
  generalize hz0:o[i+k]=z0 at *
  have hxy:=mul_le hx0 hy0
  have e5:a*yy+z0+c=c+z0+a*yy:=by omega
  rw[e5]at hst hlt2
  have d2:(0:Int)≤((i+k:Nat):Int):=by omega
  have d3:((i+k:Nat):Int)<((la+lb:Nat):Int):=by omega
  have d4:(i+k<la+lb)=True:=by simp;omega
  have v1:IntKind.u64.wrap (z0:Int)=(z0:Int):=wrap64_id (by omega)
  have v2:IntKind.u64.wrap ((c:Int)+(z0:Int))=((c+z0:Nat):Int):=by rw[←Int.natCast_add,wrap64_id (by omega)]
  have v3:IntKind.u64.wrap (a:Int)=(a:Int):=wrap64_id (by omega)
  have v4:IntKind.u64.wrap (yy:Int)=(yy:Int):=wrap64_id (by omega)
  have v5:IntKind.u64.wrap ((a:Int)*(yy:Int))=((a*yy:Nat):Int):=by rw[←Int.natCast_mul,wrap64_id (by omega)]
  have v6:IntKind.u64.wrap (((c+z0:Nat):Int)+((a*yy:Nat):Int))=((c+z0+a*yy:Nat):Int):=by rw[←Int.natCast_add,wrap64_id (by omega)]
  have v7:=wrap32 (c+z0+a*yy)
  have v8:=shr32 (c+z0+a*yy)
  refine Go1.mk ?_;repeat' ((first|(with_reducible refine Go1.go ?_)|((with_reducible refine isDraw [some 44,some 45,some 46,some 47,some 48,some 49,some 50,some 51,some 52,some 53,some 54,some 55,some 56,some 7] (by decide) ?_);refine draw_rule [(0,[]),(1,[]),(2,[]),(3,[]),(4,[]),(5,[]),(6,[4,5]),(7,[4,5]),(8,[4,5]),(9,[4,5]),(10,[4,5]),(11,[]),(12,[]),(13,[])] [[],[],[],[1,2],[1,2,3],[1,2,3,4],[],[],[6,7],[6,7,8],[6,7,8,9],[1,2,3,4,5,6,7,8,9,10],[0,1,2,3,4,5,6,7,8,9,10,11],[0,1,2,3,4,5,6,7,8,9,10,11,12]] [44,45,46,47,48,49,50,51,52,53,54,55] [] (by kernel_rfl) (by kernel_rfl) (by kernel_rfl) (by kernel_rfl) (by exact trivial) ?_)|(refine And.intro ?_ ?_;(try simp only[sxO]at *);omega)|fail)<;>(try simp (maxSteps:=1000000) only [cE_ment,hasK_nil,cE_kill,cE_len,u32_one,u32_app1,u32_set,Nat.mul_one,tiSt,u32V,hu.one,hv.one,hu.len,hu.sl,hl,hm,hxi,hyi,hat,d2,d3,d4,w2,v1,v2,v3,v4,v5,v6,v7,v8,hlo2,↓hold_pre,awayP,runOps,regK,step1,newK,genR,appR,obl,buildR,Value.cells,closeK,keepH,outV,retK,ret1,retC,RetV,Option.getD,runD,stepD,afterK,undef,Int.reduceAdd,Int.reduceEq,Int.reduceGE,Int.reduceGT,Int.reduceLE,Int.reduceLT,Int.reduceMul,Int.reduceNe,Int.reduceNeg,Int.reduceSub,Int.reduceToNat,Nat.reduceAdd,Nat.reduceBEq,Nat.reduceBeqDiff,Nat.reduceEqDiff,Nat.reduceLT,Nat.reduceLeDiff,Nat.reduceMul,Nat.reduceSub,reduceCtorEq,↓reduceIte,sxB,↓sxD,sxE,sxTab]))
  exact ⟨lb+1-(k+1),tiSt M u v (la+lb) i (k+1) _ _,by omega,le_sub ⟨rfl,rfl,rfl,rfl,rfl,rfl,trivial⟩ ⟨rfl,trivial⟩ rfl rfl rfl (keepLt0 _),k+1,_,_,rfl,by omega,fun h=>by omega,by rw[List.length_set];exact hlo2,okN_set hoo (Nat.mod_lt _ (by decide)),by omega,by
   rw[take_val,hgy];exact hst,fun j h h2 hj=>by
    rw[List.getElem_set_ne (by omega)]
    exact hrest j (by simpa using h) h2 (by omega),rfl⟩
 ·have hyl:=hv.fin (i:=k) (by omega)
  rw[hm]at hyl
  have htky:valN ((ofN y).take k)=y:=by rw[take_all (by omega),valN_ofN]
  rw[htky]at hv2
  by_cases h0:c=0
  ·subst h0
   have d1:decide ((0:Int)<((0:Nat):Int))=false:=by decide
   rw[Nat.mul_zero,Nat.add_zero]at hv2
   refine Go1.mk ?_;repeat' ((first|(with_reducible refine Go1.go ?_)|((with_reducible refine isDraw [some 44,some 45,some 46,some 47,some 48,some 49,some 50,some 51,some 52,some 53,some 54,some 55,some 56,some 7] (by decide) ?_);refine draw_rule [(0,[]),(1,[]),(2,[]),(3,[]),(4,[]),(5,[]),(6,[4,5]),(7,[4,5]),(8,[4,5]),(9,[4,5]),(10,[4,5]),(11,[]),(12,[]),(13,[])] [[],[],[],[1,2],[1,2,3],[1,2,3,4],[],[],[6,7],[6,7,8],[6,7,8,9],[1,2,3,4,5,6,7,8,9,10],[0,1,2,3,4,5,6,7,8,9,10,11],[0,1,2,3,4,5,6,7,8,9,10,11,12]] [44,45,46,47,48,49,50,51,52,53,54,55] [] (by kernel_rfl) (by kernel_rfl) (by kernel_rfl) (by kernel_rfl) (by exact trivial) ?_)|(refine And.intro ?_ ?_;(try simp only[sxO]at *);omega)|fail)<;>(try simp (maxSteps:=1000000) only [cE_ment,hasK_nil,cE_kill,cE_len,u32_one,u32_app1,u32_set,Nat.mul_one,tiSt,u32V,hu.one,hv.one,hyl,d1,w4,hlo2,↓hold_pre,awayP,runOps,regK,step1,newK,genR,appR,obl,buildR,Value.cells,closeK,keepH,outV,retK,ret1,retC,RetV,Option.getD,runD,stepD,afterK,undef,Int.reduceAdd,Int.reduceEq,Int.reduceGE,Int.reduceGT,Int.reduceLE,Int.reduceLT,Int.reduceMul,Int.reduceNe,Int.reduceNeg,Int.reduceSub,Int.reduceToNat,Nat.reduceAdd,Nat.reduceBEq,Nat.reduceBeqDiff,Nat.reduceEqDiff,Nat.reduceLT,Nat.reduceLeDiff,Nat.reduceMul,Nat.reduceSub,reduceCtorEq,↓reduceIte,sxB,↓sxD,sxE,sxTab]))
   exact ⟨la-(i+1),tmSt M u v (la+lb) (i+1) o,by omega,le_sub ⟨rfl,rfl,rfl,rfl,trivial⟩ ⟨rfl,trivial⟩ rfl rfl rfl (keepLt0 _),i+1,o,rfl,by omega,hlo2,hoo,by
    rw[hv2,hval,htk,Nat.add_mul,Nat.mul_assoc],fun j h hj=>by
    rcases Nat.lt_or_ge j (i+k) with hj2|hj2
    ·omega
    ·rw[hrest j h (by omega) hj2];exact hzz j (by omega) (by omega),rfl⟩
  ·have hk2:k=lb:=by
    rcases Nat.lt_or_ge lb k with h|h
    ·exact absurd (hcz h) h0
    ·omega
   subst hk2
   have hik:i+k<o.length:=by omega
   have hat:=u32_at hik
   have hz1:o[i+k]=0:=by rw[hrest _ hik (by omega) (Nat.le_refl _)];exact hzz _ (by omega) (Nat.le_refl _)
   have hst:=valN_set (v:=c) hik
   rw[hz1,Nat.mul_zero,Nat.add_zero,hv2]at hst
   rw[hz1]at hat
   have d1:decide ((0:Int)<(c:Int))=true:=by rw[decide_eq_true_eq];omega
   have d2:(0:Int)≤((i+k:Nat):Int):=by omega
   have d3:((i+k:Nat):Int)<((la+k:Nat):Int):=by omega
   have d4:(i+k<la+k)=True:=by simp;omega
   have v1:IntKind.u64.wrap ((0:Nat):Int)=((0:Nat):Int):=rfl
   have v2:IntKind.u64.wrap ((c:Int)+((0:Nat):Int))=(c:Int):=by rw[←Int.natCast_add,Nat.add_zero,wrap64_id (by omega)]
   have v7:IntKind.u32.wrap (c:Int)=(c:Int):=wrap32_id hc
   have v8:(c:Int).fdiv (2^(min 32 IntKind.u64.bits))=((0:Nat):Int):=by rw[shr32,Nat.div_eq_of_lt hc]
   refine Go1.mk ?_;repeat' ((first|(with_reducible refine Go1.go ?_)|((with_reducible refine isDraw [some 44,some 45,some 46,some 47,some 48,some 49,some 50,some 51,some 52,some 53,some 54,some 55,some 56,some 7] (by decide) ?_);refine draw_rule [(0,[]),(1,[]),(2,[]),(3,[]),(4,[]),(5,[]),(6,[4,5]),(7,[4,5]),(8,[4,5]),(9,[4,5]),(10,[4,5]),(11,[]),(12,[]),(13,[])] [[],[],[],[1,2],[1,2,3],[1,2,3,4],[],[],[6,7],[6,7,8],[6,7,8,9],[1,2,3,4,5,6,7,8,9,10],[0,1,2,3,4,5,6,7,8,9,10,11],[0,1,2,3,4,5,6,7,8,9,10,11,12]] [44,45,46,47,48,49,50,51,52,53,54,55] [] (by kernel_rfl) (by kernel_rfl) (by kernel_rfl) (by kernel_rfl) (by exact trivial) ?_)|(refine And.intro ?_ ?_;(try simp only[sxO]at *);omega)|fail)<;>(try simp (maxSteps:=1000000) only [cE_ment,hasK_nil,cE_kill,cE_len,u32_one,u32_app1,u32_set,Nat.mul_one,tiSt,u32V,hu.one,hv.one,hu.len,hu.sl,hl,hyl,hat,d1,d2,d3,d4,w2,w3,v1,v2,v7,v8,hlo2,↓hold_pre,awayP,runOps,regK,step1,newK,genR,appR,obl,buildR,Value.cells,closeK,keepH,outV,retK,ret1,retC,RetV,Option.getD,runD,stepD,afterK,undef,Int.reduceAdd,Int.reduceEq,Int.reduceGE,Int.reduceGT,Int.reduceLE,Int.reduceLT,Int.reduceMul,Int.reduceNe,Int.reduceNeg,Int.reduceSub,Int.reduceToNat,Nat.reduceAdd,Nat.reduceBEq,Nat.reduceBeqDiff,Nat.reduceEqDiff,Nat.reduceLT,Nat.reduceLeDiff,Nat.reduceMul,Nat.reduceSub,reduceCtorEq,↓reduceIte,sxB,↓sxD,sxE,sxTab]))
   exact ⟨k+1-(k+1),tiSt M u v (la+k) i (k+1) 0 _,by omega,le_sub ⟨rfl,rfl,rfl,rfl,rfl,rfl,trivial⟩ ⟨rfl,trivial⟩ rfl rfl rfl (keepLt0 _),k+1,_,_,rfl,by omega,fun _=>rfl,by rw[List.length_set];exact hlo2,okN_set hoo hc,by omega,by
    rw[take_all (by omega),valN_ofN,Nat.mul_zero,Nat.add_zero];exact hst,fun j h h2 hj=>by
     rw[List.getElem_set_ne (by omega)]
     exact hrest j (by simpa using h) h2 (by omega),rfl⟩
end
theorem bits32_or{a b:Nat}(ha:a<2^32)(hb:b<2^32):bits .or .u32 (a:Int) (b:Int)=((a ||| b:Nat):Int):=by
 show IntKind.u32.wrap ((BitVec.ofInt 32 (a:Int) ||| BitVec.ofInt 32 (b:Int)).toNat:Int)=_
 rw[BitVec.ofInt_natCast,BitVec.ofInt_natCast,BitVec.toNat_or,BitVec.toNat_ofNat,BitVec.toNat_ofNat]
 rw[Nat.mod_eq_of_lt ha,Nat.mod_eq_of_lt hb]
 exact wrap32_id (Nat.or_lt_two_pow ha hb)
theorem and32(a:Nat)(ha:a<18446744073709551616):bits .and .u64 (a:Int) 4294967295=((a % 4294967296:Nat):Int):=by
 show IntKind.u64.wrap ((BitVec.ofInt 64 (a:Int) &&& BitVec.ofInt 64 ((4294967295:Nat):Int)).toNat:Int)=_
 rw[BitVec.ofInt_natCast,BitVec.ofInt_natCast,BitVec.toNat_and,BitVec.toNat_ofNat,BitVec.toNat_ofNat]
 rw[Nat.mod_eq_of_lt (show a<2^64 by omega),Nat.mod_eq_of_lt (show 4294967295<2^64 by decide)]
 have h:=Nat.and_two_pow_sub_one_eq_mod a 32
 rw[show (2:Nat)^32-1=4294967295 by decide,show (2:Nat)^32=4294967296 by decide]at h
 rw[h,wrap64_id (by omega)]
theorem subW_comm{x y b:Nat}(hx:x<4294967296)(hy:y<4294967296)(hb:b≤1):subW (subW x y) b=subW (subW x b) y:=by
 unfold subW;omega
theorem low_or{a n o:Nat}(hn:n<32)(ho:o<2^n):o ||| (a*2^n % 4294967296)=o+a*2^n % 4294967296:=by
 have h1:=pow32 hn
 have h2:a*2^n % 4294967296=(a % 2^(32-n))*2^n:=by
  rw[←h1,Nat.mul_comm (2^n) (2^(32-n)),Nat.mul_mod_mul_right]
 rw[h2,Nat.or_comm,or_add ho,Nat.add_comm]
section
variable {M:Mem}{K:AV→Hp→Mem→Prop}
def rsSt(M:Mem)(u:Value)(d:Nat)(la j r:Nat)(out:List Nat):St:={env:=[(8,.ext (.int .i64 ((j:Int)-1))),(7,.ext (.int .u64 (r:Int))),(6,.slo 11 0 la 1),(0,.ext u),(1,.ext (.int .u64 (d:Int)))],hp:=[(11,79,cE u32V out)],M:=M,kb:=0,fx:=[]}
theorem rsmall_ok(u:Value)(x d:Nat)(hu:IsL M u32V u (ofN x))(hx:(ofN x).length<100000000)(hd:0<d)(hd2:d<4294967296)
  (hK:∀w M',Mem.le M M'→IsL M' u32V w (ofN (x / d))→FreshS M w→K (.ext (.tuple #[w,.int .u64 ((x % d:Nat):Int)])) [] M'):CallS Tryz.prog 183 [.ext u,.ext (.int .u64 (d:Int))] [] M [] K:=by
 refine inlS (cs:=[]) Tryz.mixed Tryz.func183 rfl (by kernel_rfl) 0 rfl rfl ?_
 simp only[Tryz.f183]
 generalize hl:(ofN x).length=la at *
 have w1:IntKind.i64.wrap ((la:Int)-1)=(la:Int)-1:=wrap_id (by omega) (by omega)
 refine wT (A12 @cE_ment @hasK_nil @cE_kill @cE_len @u32_one @u32_app1 @u32_set @Nat.mul_one hu.one hu.len hu.sl (A2 hl w1)) ?_
 have hz0:List.map AV.ext (repN [Value.int .u32 0] la)=cE u32V (List.replicate la 0):=cE_rep u32V la 0
 refine ⟨fun m z=>∃j r out,j=m∧j≤la∧out.length=la∧okN out∧r<d∧valN ((ofN x).drop j)=d*valN (out.drop j)+r∧z=rsSt M u d la j r out,
  ⟨la,rsSt M u d la la 0 (List.replicate la 0),le_sub ⟨rfl,rfl,rfl,rfl,rfl,trivial⟩ (by simp[subHp,rsSt,lkH,hz0]) rfl rfl rfl (keepLt0 _),⟨la,0,_,rfl,by omega,by simp,okN_rep _,hd,by rw[List.drop_of_length_le (by omega),List.drop_of_length_le (by simp)];simp[valN],rfl⟩⟩,?_⟩
 rintro m z ⟨j,r,out,rfl,hj,hlo,ho,hr,hval,rfl⟩
 by_cases hlt:0<j
 case neg=>
  obtain rfl:j=0:=by omega
  have d1:decide ((0:Int)≤((0:Nat):Int)-1)=false:=by simp
  rw[List.drop_zero,List.drop_zero,valN_ofN]at hval
  have e1:valN out=x / d:=by
   rw[hval,Nat.mul_add_div hd,Nat.div_eq_of_lt hr,Nat.add_zero]
  have e2:x % d=r:=by rw[hval,Nat.mul_add_mod,Nat.mod_eq_of_lt hr]
  rw[e2]at hK
  have hf:=A12 @cE_ment @hasK_nil @cE_kill @cE_len @u32_one @u32_app1 @u32_set @Nat.mul_one @rsSt.eq_1 hu.one hu.len (A4 hu.sl hl d1 hlo);refine wS ?_;refine yH 170 ?_;refine sF ?_;refine rtrim_bor 11 la _ out hlo.symm ho (by omega) (fun w M' g1 g2 g3=>sG ?_);all_goals clear hf
  rw[e1]at g2
  refine wG (A9 @cE_ment @hasK_nil @cE_kill @cE_len @u32_one @u32_app1 @u32_set @Nat.mul_one g2.one) ?_
  exact hK _ _ g1 g2 g3
 obtain ⟨i,rfl⟩:∃i,j=i+1:=⟨j-1,by omega⟩
 have ej:(((i+1:Nat):Int)-1)=(i:Int):=by omega
 have hil:i<(ofN x).length:=by omega
 have hxi:=hu.idx (P:=Tryz.prog) (T:=79) tk79 tz79 (by omega) hil
 rw[hl]at hxi
 have hx0:(ofN x)[i]<4294967296:=ofN_ok_at hil
 have hdr:=valN_drop hil
 generalize (ofN x)[i]=a at *
 have d1:decide ((0:Int)≤(i:Int))=true:=by simp
 have d2:(i<la)=True:=by simp;omega
 have w3:IntKind.u64.wrap (a:Int)=(a:Int):=wrap64_id (by omega)
 have w4:=shl32 (a:=r) (by omega)
 have w5:=or32 (a:=r) (b:=a) (by omega) hx0
 have w6:IntKind.u64.wrap (d:Int)=(d:Int):=wrap64_id (by omega)
 have w7:=quo64 (s:=r*4294967296+a) (d:=d) (by omega)
 have w8:=rem64 (r*4294967296+a) d
 have hq:=small_lt hr hx0
 have w9:=wrap32_id hq
 have w10:IntKind.i64.wrap ((i:Int)-1)=(i:Int)-1:=wrap_id (by omega) (by omega)
 refine wT (A12 @cE_ment @hasK_nil @cE_kill @cE_len @u32_one @u32_app1 @u32_set @Nat.mul_one @rsSt.eq_1 @u32V.eq_1 ej (A12 hu.one hu.len hu.sl hl hxi d1 d2 w3 w4 w5 w6 (A5 w7 w8 w9 w10 hlo))) ?_
 exact ⟨i,rsSt M u d la i _ _,by omega,le_sub ⟨rfl,rfl,rfl,rfl,rfl,trivial⟩ ⟨rfl,trivial⟩ rfl rfl rfl (keepLt0 _),i,_,_,rfl,by omega,by rw[List.length_set];exact hlo,okN_set ho hq,Nat.mod_lt _ hd,by
  rw[hdr,drop_set_self (by omega)];exact small_step hd hval,rfl⟩
def upSt(M:Mem)(u:Value)(n la i kb:Nat)(out:List Nat):St:={env:=[(6,.ext (.int .i64 (i:Int))),(5,.slo (kb+11) 0 (la+1) 1),(0,.ext u),(1,.ext (.int .i64 (n:Int)))],hp:=[(kb+11,79,cE u32V out)],M:=M,kb:=kb,fx:=[]}
theorem up_ok(kb:Nat)(u:Value)(l:List Nat)(n:Nat)(hu:IsL M u32V u l)(hx:l.length<100000000)(hol:okN l)(hn:n<32)
  (hK:∀out,out.length=l.length+1→okN out→valN out=valN l*2^n→K (.slo (kb+11) 0 (l.length+1) 1) [(kb+11,79,cE u32V out)] M):CallS Tryz.prog 184 [.ext u,.ext (.int .i64 (n:Int))] [] M [] K:=by
 refine inlS (cs:=[]) Tryz.mixed Tryz.func184 rfl (by kernel_rfl) kb rfl rfl ?_
 simp only[Tryz.f184]
 generalize hl:l.length=la at *
 have w1:IntKind.i64.wrap ((la:Int)+1)=((la+1:Nat):Int):=succ_i (by omega)
 refine wT (A12 @cE_ment @hasK_nil @cE_kill @cE_len @u32_one @u32_app1 @u32_set @Nat.mul_one hu.one hu.len hu.sl (A2 hl w1)) ?_
 have hz0:AV.ext (Value.int .u32 0) :: List.map AV.ext (repN [Value.int .u32 0] la)=cE u32V (List.replicate (la+1) 0):=cE_rep u32V (la+1) 0
 have k1:keepLt kb (upSt M u n la 0 kb (List.replicate (la+1) 0)).hp [(kb+11,79,cE u32V (List.replicate (la+1) 0))]:=⟨.inl (by omega),trivial⟩
 refine ⟨fun d z=>∃i out,d=la-i∧i≤la∧out.length=la+1∧okN out∧out.getD i 0<2^n∧valN (out.take (i+1))=valN (l.take i)*2^n∧z=upSt M u n la i kb out,
  ⟨la,upSt M u n la 0 kb (List.replicate (la+1) 0),le_sub ⟨rfl,rfl,rfl,rfl,trivial⟩ (by simp[subHp,upSt,lkH,hz0]) rfl rfl rfl (by rw[hz0];exact k1),⟨0,_,rfl,by omega,by simp,okN_rep _,by simp[List.getD,Nat.two_pow_pos n],by simp[valN,List.replicate_succ],rfl⟩⟩,?_⟩
 rintro d z ⟨i,out,rfl,hi,hlo,ho,hc,hval,rfl⟩
 have hp2:(2:Nat)^n≤2^31:=Nat.pow_le_pow_right (by decide) (by omega)
 by_cases hlt:i<la
 case neg=>
  obtain rfl:i=la:=by omega
  have d1:decide ((i:Int)<(i:Int))=false:=by simp
  rw[take_all (by omega),take_all (by omega)]at hval
  refine wT (A12 @cE_ment @hasK_nil @cE_kill @cE_len @u32_one @u32_app1 @u32_set @Nat.mul_one @upSt.eq_1 hu.one hu.len (A3 hu.sl hl d1)) ?_
  exact hK _ hlo ho hval
 have hil:i<l.length:=by omega
 have hxi:=hu.idx (P:=Tryz.prog) (T:=79) tk79 tz79 (by omega) hil
 rw[hl]at hxi
 have hx0:l[i]<4294967296:=okN_at hol hil
 have hgx:l.getD i 0=l[i]:=by simp[List.getD,hil]
 generalize l[i]=a at *
 have hio:i<out.length:=by omega
 have hat:=u32_at hio
 have hgo:out.getD i 0=out[i]:=by simp[List.getD,hio]
 rw[hgo]at hc
 have htk:=valN_take_succ hio
 generalize out[i]=o at *
 have hs0:=shlN hx0 hn
 have hxm:=shl_carry (c:=0) hx0 (Nat.two_pow_pos n)
 rw[Nat.add_zero]at hxm
 have hxb:a*2^n≤a*2^31:=Nat.mul_le_mul_left a hp2
 have hor:=low_or (a:=a) hn hc
 have hlow:o+a*2^n % 4294967296<4294967296:=by
  rw[←hor];exact Nat.or_lt_two_pow (n:=32) (by omega) (Nat.mod_lt _ (by decide))
 have hdm:=Nat.div_add_mod (a*2^n) 4294967296
 obtain ⟨x,hxe⟩:∃x,a*2^n=x:=⟨_,rfl⟩
 rw[hxe]at hs0 hxm hxb hor hlow hdm
 have w3:IntKind.u64.wrap (a:Int)=(a:Int):=wrap64_id (by omega)
 have w4:=wrap32 x
 have w5:bits .or .u32 (o:Int) ((x % 4294967296:Nat):Int)=((o+x % 4294967296:Nat):Int):=by
  rw[bits32_or (by omega) (Nat.mod_lt _ (by decide)),hor]
 have w6:=shr32 x
 have w7:IntKind.u32.wrap ((x / 4294967296:Nat):Int)=((x / 4294967296:Nat):Int):=wrap32_id (by omega)
 have w8:IntKind.i64.wrap ((i:Int)+1)=((i+1:Nat):Int):=succ_i (by omega)
 have d1:decide ((i:Int)<(la:Int))=true:=by simp;omega
 have d2:(i<la+1)=True:=by simp;omega
 have d3:(i+1<la+1)=True:=by simp;omega
 have d4:(0:Int)≤(i:Int):=by omega
 have d5:(i:Int)<((la+1:Nat):Int):=by omega
 have d6:(0:Int)≤((i+1:Nat):Int):=by omega
 have d7:((i+1:Nat):Int)<((la+1:Nat):Int):=by omega
 refine wT (A12 @cE_ment @hasK_nil @cE_kill @cE_len @u32_one @u32_app1 @u32_set @Nat.mul_one @upSt.eq_1 @u32V.eq_1 hu.one (A12 hu.len hu.sl hl hxi hat d1 d2 d3 d4 d5 d6 (A10 d7 hs0 w3 w4 w5 w6 w7 w8 hlo @List.length_set.{0}))) ?_
 have e1:((out.set i (o+x % 4294967296)).set (i+1) (x / 4294967296)).take (i+1+1)=out.take i++[o+x % 4294967296]++[x / 4294967296]:=by
  rw[take_set_self (by rw[List.length_set];omega),take_set_self hio]
 exact ⟨la-(i+1),upSt M u n la (i+1) kb _,by omega,le_sub ⟨rfl,rfl,rfl,rfl,trivial⟩ (by simp[subHp,upSt,lkH];rfl) rfl rfl rfl ⟨.inl (Nat.le_add_right _ _),trivial⟩,i+1,_,rfl,by omega,by rw[List.length_set,List.length_set];exact hlo,okN_set (okN_set ho hlow) (by omega),by
  simp only[List.getD,List.getElem?_set_self (show i+1<(out.set i (o+x % 4294967296)).length by rw[List.length_set];omega),Option.getD_some];exact hxm,by
  have hti:(out.take i).length=i:=by rw[List.length_take];omega
  rw[e1,valN_snoc,valN_snoc,List.length_append,List.length_singleton,hti,take_val,hgx,Nat.add_mul,←hval,htk,wN_succ]
  have e2:wN i*a*2^n=wN i*(4294967296*(x / 4294967296)+x % 4294967296):=by rw[hdm,Nat.mul_assoc,hxe]
  rw[e2]
  generalize x / 4294967296=q
  generalize x % 4294967296=r
  grind,rfl⟩
theorem u32_part{L:List Nat}{off m i:Nat}(h:off+m≤L.length)(hi:i<m){hil:i<((L.drop off).take m).length}:(cE u32V L)[off+i]? = some (.ext (.int .u32 (((L.drop off).take m)[i]:Int))):=by
 have e:L[off+i]? = some (((L.drop off).take m)[i]):=by
  rw[List.getElem_take,List.getElem_drop]
  exact List.getElem?_eq_getElem (by omega)
 unfold cE
 rw[List.getElem?_map,List.getElem?_map,e];rfl
def cuSt(M:Mem)(k off m j:Nat)(L:List Nat):St:={env:=[(3,.ext (.int .i64 (j:Int))),(0,.slo k off m 1)],hp:=[(k,79,cE u32V L)],M:=M,kb:=k+1,fx:=[k]}
theorem cut_ok(k off m:Nat)(L:List Nat)(hm:off+m≤L.length)(hb:m<1000000000)(ho:okN L)(hK:∀m',((L.drop off).take m).take m'=ofN (valN ((L.drop off).take m))→m'=(ofN (valN ((L.drop off).take m))).length→m'≤m→K (.slo k off m' 1) [(k,79,cE u32V L)] M) :
  CallS Tryz.prog 189 [.slo k off m 1] [(k,79,cE u32V L)] M [] K:=by
 refine inlS (cs:=[]) (f:=189) Tryz.mixed Tryz.func189 rfl (by kernel_rfl) (k+1) rfl (by simp[ltB,keysH]) ?_
 simp only[Tryz.f189]
 refine wT (A8 @cE_ment @hasK_nil @cE_kill @cE_len @u32_one @u32_app1 @u32_set @Nat.mul_one) ?_
 have hll:((L.drop off).take m).length=m:=by rw[List.length_take,List.length_drop];omega
 have hol:=okN_take (okN_drop ho off) m
 have hat:∀i (h:i<((L.drop off).take m).length),(cE u32V L)[off+i]? = some (.ext (.int .u32 (((L.drop off).take m)[i]:Int))):=fun i h=>u32_part hm (by omega)
 generalize (L.drop off).take m=l at *
 refine ⟨fun d z=>∃j,j=d∧j≤m∧(∀i (h:i<l.length),j≤i→l[i]=0)∧z=cuSt M k off m j L,⟨m,cuSt M k off m m L,le_sub ⟨rfl,rfl,trivial⟩ ⟨by simp[lkH],trivial⟩ rfl rfl rfl (by simp[keepLt,cuSt,lkH]),⟨_,rfl,Nat.le_refl _,fun i h hi=>by omega,rfl⟩⟩,?_⟩
 rintro d z ⟨j,rfl,hj,hz,rfl⟩
 have d6:(j:Int)≤(m:Int):=by omega
 have d7:(0:Int)≤(j:Int):=by omega
 have key:(∀h:0<j,l[j-1]≠0)→K (.slo k off j 1) [(k,79,cE u32V L)] M:=fun h=>by
  have e:=take_canon hol (by omega) hz h
  exact hK j e (by rw[←e,List.length_take];omega) hj
 by_cases hlt:0<j
 case neg=>
  obtain rfl:j=0:=by omega
  have d1:decide ((0:Int)<((0:Nat):Int))=false:=by decide
  refine wT (A12 @cE_ment @hasK_nil @cE_kill @cE_len @u32_one @u32_app1 @u32_set @Nat.mul_one @cuSt.eq_1 d1 d6 (A2 d7 @Nat.sub_zero)) ?_
  exact key (fun h=>by omega)
 have d1:decide ((0:Int)<(j:Int))=true:=by simp;omega
 have w1:=pred_i hlt (by omega)
 have hi:j-1<l.length:=by omega
 have hat2:=hat _ hi
 have d2:(0:Int)≤((j-1:Nat):Int):=by omega
 have d3:((j-1:Nat):Int)<(m:Int):=by omega
 by_cases h0:l[j-1]=0
 ·have d4:decide ((l[j-1]:Int)=0)=true:=by simp;omega
  refine wT (A12 @cE_ment @hasK_nil @cE_kill @cE_len @u32_one @u32_app1 @u32_set @Nat.mul_one @cuSt.eq_1 d1 d2 (A4 d3 d4 w1 hat2)) ?_
  exact ⟨j-1,cuSt M k off m (j-1) L,by omega,le_sub ⟨rfl,rfl,trivial⟩ ⟨by simp[lkH],trivial⟩ rfl rfl rfl (by simp[keepLt,cuSt,lkH]),j-1,rfl,by omega,fun i h hi=>by
   rcases Nat.lt_or_ge i j with h1|h1
   ·obtain rfl:i=j-1:=by omega
    exact h0
   ·exact hz i h h1,rfl⟩
 ·have d4:decide ((l[j-1]:Int)=0)=false:=by simp;omega
  refine wT (A12 @cE_ment @hasK_nil @cE_kill @cE_len @u32_one @u32_app1 @u32_set @Nat.mul_one @cuSt.eq_1 d1 d2 (A7 d3 d4 d6 d7 w1 hat2 @Nat.sub_zero)) ?_
  exact key (fun h=>h0)
structure OwnN (L:List Nat) (o m x:Nat):Prop where
 le:o+m≤L.length
 ok:okN L
 eq:(L.drop o).take m=ofN x
theorem OwnN.len{L:List Nat}{o m x:Nat}(h:OwnN L o m x):m=(ofN x).length:=by
 rw[←h.eq,List.length_take,List.length_drop]
 have:=h.le
 omega
theorem OwnN.val{L:List Nat}{o m x:Nat}(h:OwnN L o m x):valN ((L.drop o).take m)=x:=by rw[h.eq,valN_ofN]
theorem down_plain{l:List Nat}(ho:okN l)(n:Nat):valN (l.drop (min l.length (n / 32))) / 2^(n % 32)=valN l / 2^n:=by
 rcases Nat.lt_or_ge (n / 32) l.length with h|h
 ·rw[Nat.min_eq_right (by omega),valN_drop_div ho (by omega),wN_two,Nat.div_div_eq_div_mul,←Nat.pow_add,Nat.div_add_mod]
 ·rw[Nat.min_eq_left h,List.drop_of_length_le (Nat.le_refl _),show valN []=0 from rfl,Nat.zero_div]
  symm
  apply Nat.div_eq_of_lt
  have h1:=valN_lt ho
  rw[wN_two]at h1
  exact Nat.lt_of_lt_of_le h1 (Nat.pow_le_pow_right (by decide) (by omega))
def dnSt(M:Mem)(k o m n i:Nat)(L:List Nat):St:={env:=[(5,.ext (.int .i64 (i:Int))),(0,.slo k o m 1),(1,.ext (.int .i64 (n:Int)))],hp:=[(k,79,cE u32V L)],M:=M,kb:=k+1,fx:=[k]}
theorem down_ok(k off m n:Nat)(L:List Nat)(hm:off+m≤L.length)(hb:L.length<100000000)(hn:n<1000000000000)(ho:okN L)(hK:∀L' o' m',L'.length=L.length→OwnN L' o' m' (valN ((L.drop off).take m) / 2^n)→K (.slo k o' m' 1) [(k,79,cE u32V L')] M) :
  CallS Tryz.prog 181 [.slo k off m 1,.ext (.int .i64 (n:Int))] [(k,79,cE u32V L)] M [] K:=by
 refine inlS (cs:=[]) (f:=181) Tryz.mixed Tryz.func181 rfl (by kernel_rfl) (k+1) rfl (by simp[ltB,keysH]) ?_
 simp only[Tryz.f181]
 obtain ⟨w,hw⟩:∃w,min m (n / 32)=w:=⟨_,rfl⟩
 have w1:IntKind.i64.wrap ((n:Int).tdiv 32)=((n / 32:Nat):Int):=by
  rw[show (32:Int)=((32:Nat):Int) from rfl,←Int.ofNat_tdiv,wrap_id (by omega) (by omega)]
 have w2:(if ((n / 32:Nat):Int)<(m:Int) then ((n / 32:Nat):Int) else (m:Int))=(w:Int):=by
  split<;>omega
 have d1:(0:Int)≤(w:Int):=by omega
 have d2:(w:Int)≤(m:Int):=by omega
 have d3:(m:Int)≤(m:Int):=by omega
 refine wT (A12 @cE_ment @hasK_nil @cE_kill @cE_len @u32_one @u32_app1 @u32_set @Nat.mul_one w1 w2 d1 (A2 d2 d3)) ?_
 have hwm:w≤m:=by omega
 obtain ⟨o,hoo⟩:∃o,off+w=o:=⟨_,rfl⟩
 obtain ⟨m2,hm2⟩:∃m2,m-w=m2:=⟨_,rfl⟩
 rw[hoo,hm2]
 have hll:((L.drop off).take m).length=m:=by rw[List.length_take,List.length_drop];omega
 have hpl:=down_plain (okN_take (okN_drop ho off) m) n
 rw[hll,hw]at hpl
 have hdd:((L.drop off).take m).drop w=(L.drop o).take m2:=by
  rw[List.drop_take,List.drop_drop,hoo,hm2]
 rw[hdd]at hpl
 rw[←hpl]at hK
 have hL:L=L.take o++((L.drop o).take m2++L.drop (o+m2)):=by
  rw[←List.drop_drop,List.take_append_drop,List.take_append_drop]
 have hCl:((L.drop o).take m2).length=m2:=by rw[List.length_take,List.length_drop];omega
 have hPl:(L.take o).length=o:=by rw[List.length_take];omega
 have hoC:=okN_take (okN_drop ho o) m2
 have hoP:=okN_take ho o
 have hoS:=okN_drop ho (o+m2)
 have hLl:((L.take o).length+m2+(L.drop (o+m2)).length)=L.length:=by rw[hPl,List.length_drop];omega
 clear hpl hdd hll
 generalize L.take o=P at *
 generalize (L.drop o).take m2=C0 at *
 generalize L.drop (o+m2)=S at *
 subst hL
 have w3:(n:Int).tmod 32=((n % 32:Nat):Int):=by rw[show (32:Int)=((32:Nat):Int) from rfl,←Int.ofNat_tmod]
 have hs32:n % 32<32:=Nat.mod_lt _ (by decide)
 generalize n % 32=s at *
 refine ⟨fun d z=>∃i C,d=m2-i∧i≤m2∧C.length=m2∧okN C∧C.drop i=C0.drop i∧valN (C.take i)=valN C0 / 2^s % wN i∧z=dnSt M k o m2 n i (P++(C++S)),
  ⟨m2,dnSt M k o m2 n 0 (P++(C0++S)),le_sub ⟨rfl,rfl,rfl,trivial⟩ ⟨by simp[lkH],trivial⟩ rfl rfl rfl (by simp[keepLt,dnSt,lkH]),⟨0,C0,rfl,by omega,hCl,hoC,rfl,by simp[valN,wN,Nat.mod_one],rfl⟩⟩,?_⟩
 rintro d z ⟨i,C,rfl,hi,hC,hoC2,hdr,hval,rfl⟩
 by_cases hlt:i<m2
 case neg=>
  obtain rfl:i=m2:=by omega
  have d5:decide ((i:Int)<(i:Int))=false:=by simp
  have e1:valN C=valN C0 / 2^s:=by
   rw[take_all (by omega)]at hval
   rw[hval]
   refine Nat.mod_eq_of_lt (Nat.lt_of_le_of_lt (Nat.div_le_self _ _) ?_)
   rw[←hCl];exact valN_lt hoC
  have hpart:((P++(C++S)).drop o).take i=C:=by
   rw[←hPl,List.drop_left,←hC,List.take_left]
  have hfl:(P++(C++S)).length=(P++(C0++S)).length:=by simp[hC,hCl]
  have hok:okN (P++(C++S)):=okN_app.2 ⟨hoP,okN_app.2 ⟨hoC2,hoS⟩⟩
  have hol:o+i≤(P++(C++S)).length:=by simp[hC,hPl]
  have hf:=A10 @cE_ment @hasK_nil @cE_kill @cE_len @u32_one @u32_app1 @u32_set @Nat.mul_one @dnSt.eq_1 d5;refine wS ?_;refine yH 189 ?_;refine sF ?_;refine cut_ok k o i (P++(C++S)) hol (by omega) hok (fun m' c1 c2 c3=>sG ?_);all_goals clear hf
  rw[hpart,e1]at c1 c2
  refine wG (A8 @cE_ment @hasK_nil @cE_kill @cE_len @u32_one @u32_app1 @u32_set @Nat.mul_one) ?_
  refine hK _ o m' hfl ⟨by omega,hok,?_⟩
  have hp2:=congrArg (List.take m') hpart
  rw[List.take_take,Nat.min_eq_left c3]at hp2
  rw[←c1,hp2]
 have hiC:i<C.length:=by omega
 have hat:=u32_mid (S:=S) hPl hiC
 have hx0:=okN_at hoC2 hiC
 have hCi:C[i]=C0[i]'(by omega):=by
  have e1:(C.drop i)[0]? = (C0.drop i)[0]?:=by rw[hdr]
  rw[List.getElem?_drop,List.getElem?_drop,Nat.add_zero,List.getElem?_eq_getElem hiC,List.getElem?_eq_getElem (by omega)]at e1
  exact Option.some.inj e1
 have hdr0:=valN_drop (l:=C0) (show i<C0.length by omega)
 rw[←hCi]at hdr0
 have hdv:=valN_drop_div hoC (i:=i) (by omega)
 have hwd:=wN_div (valN C0) i (n:=s)
 have d4:decide ((i:Int)<(m2:Int))=true:=by simp;omega
 have d5:(0:Int)≤(i:Int):=by omega
 have d6:(i:Int)<(m2:Int):=by omega
 have d7:(o+i<(P++(C++S)).length)=True:=by simp[hC,hPl];omega
 have w4:IntKind.i64.wrap ((i:Int)+1)=((i+1:Nat):Int):=succ_i (by omega)
 have fin:∀(r:Nat) (st:St),r<4294967296→valN C0 / wN i / 2^s % 4294967296=r→lk st.env 5=.ext (.int .i64 ((i+1:Nat):Int))→lk st.env 0=.slo k o m2 1→lk st.env 1=.ext (.int .i64 (n:Int))→lkH st.hp k=some (79,cE u32V (P++(C.set i r++S)))→st.M=M→st.kb=k+1→st.fx=[k]→keepLt (k+1) [(k,79,cE u32V (P++(C.set i r++S)))] st.hp→
   ∃m' z,m'<m2-i∧Le st z∧∃i C,m'=m2-i∧i≤m2∧C.length=m2∧okN C∧C.drop i=C0.drop i∧valN (C.take i)=valN C0 / 2^s % wN i∧z=dnSt M k o m2 n i (P++(C++S)):=fun r st hr hd e5 e0 e1 eh eM ek ef hkl=>
  ⟨m2-(i+1),dnSt M k o m2 n (i+1) (P++(C.set i r++S)),by omega,le_sub ⟨e5,e0,e1,trivial⟩ ⟨eh,trivial⟩ eM.symm ek.symm ef.symm (by rw[ek];exact hkl),i+1,_,rfl,by omega,by rw[List.length_set];exact hC,okN_set hoC2 hr,by
   rw[List.drop_set_of_lt (by omega)]
   have:=congrArg (List.drop 1) hdr
   rw[List.drop_drop,List.drop_drop]at this
   exact this,by
   rw[take_set_self hiC,valN_snoc,List.length_take,Nat.min_eq_left (by omega),hval,hwd,hd],rfl⟩
 have v1:IntKind.u64.wrap (C[i]:Int)=(C[i]:Int):=wrap64_id (by omega)
 by_cases hy:i+1<m2
 ·have hiC2:i+1<C.length:=by omega
  have hat2:=u32_mid (S:=S) hPl hiC2
  have hy0:=okN_at hoC2 hiC2
  have hCj:C[i+1]=C0[i+1]'(by omega):=by
   have e1:(C.drop i)[1]? = (C0.drop i)[1]?:=by rw[hdr]
   rw[List.getElem?_drop,List.getElem?_drop,List.getElem?_eq_getElem hiC2,List.getElem?_eq_getElem (by omega)]at e1
   exact Option.some.inj e1
  have hdr2:=valN_drop (l:=C0) (show i+1<C0.length by omega)
  rw[←hCj]at hdr2
  have d8:decide (((i+1:Nat):Int)<(m2:Int))=true:=by rw[decide_eq_true_eq];omega
  have d9:(0:Int)≤((i+1:Nat):Int):=by omega
  have d10:((i+1:Nat):Int)<(m2:Int):=by omega
  obtain ⟨b,hbe⟩:∃b,C[i+1]=b:=⟨_,rfl⟩
  obtain ⟨a,hae⟩:∃a,C[i]=a:=⟨_,rfl⟩
  rw[hbe]at hat2 hy0 hdr2
  rw[hae]at hat hx0 hdr0 v1
  have v2:IntKind.u64.wrap (b:Int)=(b:Int):=wrap64_id (by omega)
  have v3:=shl32 hy0
  have v4:bits .or .u64 (a:Int) ((b*4294967296:Nat):Int)=((b*4294967296+a:Nat):Int):=by
   rw[bits64_or (by omega) (by omega),Nat.or_comm,show (4294967296:Nat)=2^32 by decide,or_add (by omega)]
  have v5:=shrN (b*4294967296+a) hs32
  have v6:=wrap32 ((b*4294967296+a) / 2^s)
  have hdig:valN C0 / wN i / 2^s % 4294967296=(b*4294967296+a) / 2^s % 4294967296:=by
   rw[←hdv,hdr0,hdr2,shr_digit hs32,Nat.add_comm,Nat.mul_comm 4294967296 b]
  have hms:=mid_set P C S o i ((b*4294967296+a) / 2^s % 4294967296) hPl hiC
  refine wT (A12 @cE_ment @hasK_nil @cE_kill @cE_len @u32_one @u32_app1 @u32_set @Nat.mul_one @dnSt.eq_1 hat hat2 (A12 d4 d5 d6 d7 d8 d9 d10 w3 w4 v1 v2 (A5 v3 v4 v5 v6 hms))) ?_
  exact fin _ _ (Nat.mod_lt _ (by decide)) hdig rfl rfl rfl (by simp[lkH]) rfl rfl rfl (by simp[keepLt,lkH])
 ·have d8:decide (((i+1:Nat):Int)<(m2:Int))=false:=by rw[decide_eq_false_iff_not];omega
  have hdr2:C0.drop (i+1)=[]:=List.drop_of_length_le (by omega)
  obtain ⟨a,hae⟩:∃a,C[i]=a:=⟨_,rfl⟩
  rw[hae]at hat hx0 hdr0 v1
  have v5:=shrN a hs32
  have v6:=wrap32 (a / 2^s)
  have hdig:valN C0 / wN i / 2^s % 4294967296=a / 2^s % 4294967296:=by
   rw[←hdv,hdr0,hdr2];simp[valN]
  have hms:=mid_set P C S o i (a / 2^s % 4294967296) hPl hiC
  refine wT (A12 @cE_ment @hasK_nil @cE_kill @cE_len @u32_one @u32_app1 @u32_set @Nat.mul_one @dnSt.eq_1 hat d4 (A10 d5 d6 d7 d8 w3 w4 v1 v5 v6 hms)) ?_
  exact fin _ _ (Nat.mod_lt _ (by decide)) hdig rfl rfl rfl (by simp[lkH]) rfl rfl rfl (by simp[keepLt,lkH])
end
section
variable {M:Mem}{K:AV→Hp→Mem→Prop}
def plH(P C S B:List Nat):Hp:=[(1011,79,cE u32V (P++(C++S))),(2011,79,cE u32V B)]
def pcSt(M:Mem)(P S B:List Nat)(L j n q:Nat)(i b ca:Nat)(C:List Nat):St:={env:=[(11,.ext (.int .i64 (i:Int))),(10,.ext (.int .u64 (b:Int))),(9,.ext (.int .u64 (ca:Int))),(0,.slo 1011 0 L 1),(1,.slo 2011 0 n 1),(2,.ext (.int .i64 (j:Int))),(3,.ext (.int .u64 (q:Int)))],hp:=plH P C S B,M:=M,kb:=3000,fx:=[1011,2011]}
def pbSt(M:Mem)(P S B:List Nat)(L j n q:Nat)(i ca:Nat)(C:List Nat):St:={env:=[(15,.ext (.int .i64 (i:Int))),(14,.ext (.int .u64 (ca:Int))),(0,.slo 1011 0 L 1),(1,.slo 2011 0 n 1),(2,.ext (.int .i64 (j:Int))),(3,.ext (.int .u64 (q:Int)))],hp:=plH P C S B,M:=M,kb:=3000,fx:=[1011,2011]}
theorem place_ok(P C S B:List Nat)(L j n q:Nat)(hL:j+n<L)(hj:P.length=j)(hC:C.length=n+1)(hB:B.length=n)(hn:n<1000000000)(hj2:j<1000000000)(hoC:okN C)(hoB:okN B)(hq:q<4294967296)(hV:0<valN B)(hq1:valN C / valN B≤q)(hq2:q≤valN C / valN B+1)
  (hK:∀(C':List Nat),C'.length=n+1→okN C'→valN C'+valN C / valN B*valN B=valN C→valN C'<valN B→K (.ext (.int .u32 ((valN C / valN B:Nat):Int))) (plH P C' S B) M) :
  CallS Tryz.prog 185 [.slo 1011 0 L 1,.slo 2011 0 n 1,.ext (.int .i64 (j:Int)),.ext (.int .u64 (q:Int))] (plH P C S B) M [] K:=by
 refine inlS (cs:=[]) (f:=185) Tryz.mixed Tryz.func185 rfl (by kernel_rfl) 3000 rfl rfl ?_
 simp only[Tryz.f185]
 have e0:∀D,keysH (plH P D S B)=[1011,2011]:=fun D=>rfl
 have e0C:=e0 C
 have hf:=A10 @cE_ment @hasK_nil @cE_kill @cE_len @u32_one @u32_app1 @u32_set @Nat.mul_one e0C @plH.eq_1;refine sF ?_;(repeat' ((first|((with_reducible refine isE 85 (by decide) ?_);refine dR (rP 0 8 [] (rP 8 5 [6,7] (rP 13 3 [] []))) (rgL 85 14 []) [] ?_)|refine oB ?_|fail)<;>refine sF ?_<;>try with_reducible exact tT))<;>try clear hf
 refine ⟨fun d z=>∃i b ca D,d=n-i∧i≤n∧D.length=n+1∧okN D∧b≤1∧ca<4294967296∧valN D+q*valN (B.take i)=valN C+wN i*(ca+b)∧z=pcSt M P S B L j n q i b ca D,
  ⟨n,pcSt M P S B L j n q 0 0 0 C,le_sub ⟨rfl,rfl,rfl,rfl,rfl,rfl,rfl,trivial⟩ ⟨rfl,rfl,trivial⟩ rfl rfl rfl (by simp[keepLt,pcSt,plH,lkH]),⟨0,0,0,C,rfl,by omega,hC,hoC,by omega,by omega,by simp[valN],rfl⟩⟩,?_⟩
 rintro d z ⟨i,b,ca,D,rfl,hi,hD,hoD,hb,hca,hval,rfl⟩
 have hCL:valN C<wN (n+1):=by have:=valN_lt hoC;rwa[hC]at this
 have hBL:valN B≤wN (n+1):=by have:=valN_lt hoB;rw[hB]at this;exact Nat.le_trans (Nat.le_of_lt this) (wN_mono (by omega))
 by_cases hlt:i<n
 case pos=>
  have hiD:i<D.length:=by omega
  have hiB:i<B.length:=by omega
  have hat:=u32_mid (S:=S) hj hiD
  rw[Nat.add_comm j i]at hat
  have hbt:=u32_at hiB
  have hgy:B.getD i 0=B[i]:=by simp[List.getD,hiB]
  have hy:=okN_at hoB hiB
  have hc0:=okN_at hoD hiD
  have hmy:=mul_le hq hy
  generalize B[i]=y at *
  have w1:IntKind.u64.wrap (y:Int)=(y:Int):=wrap64_id (by omega)
  have w2:IntKind.u64.wrap ((q:Int)*(y:Int))=((q*y:Nat):Int):=by rw[←Int.natCast_mul,wrap64_id (by omega)]
  have w3:IntKind.u64.wrap ((ca:Int)+((q*y:Nat):Int))=((q*y+ca:Nat):Int):=by rw[←Int.natCast_add,Nat.add_comm,wrap64_id (by omega)]
  have w0:IntKind.i64.wrap ((i:Int)+(j:Int))=((i+j:Nat):Int):=by rw[wrap_id (by omega) (by omega)];omega
  have w4:=shr32 (q*y+ca)
  have w5:IntKind.u64.wrap (D[i]:Int)=(D[i]:Int):=wrap64_id (by omega)
  have w7:=and32 (q*y+ca) (by omega)
  have hp:=Nat.mod_lt (q*y+ca) (show 0<4294967296 by decide)
  have hca2:(q*y+ca) / 4294967296<4294967296:=by omega
  obtain ⟨s1,s2⟩:=subW_3 hc0 hp hb
  have st:=red_step hiD hval y s1
  generalize hpl:(q*y+ca) % 4294967296=pl at *
  have w8:IntKind.u64.wrap ((D[i]:Int)-(pl:Int))=((subW D[i] pl:Nat):Int):=wrap64_sub (by omega)
  have w9:IntKind.u64.wrap (((subW D[i] pl:Nat):Int)-(b:Int))=((subW (subW D[i] b) pl:Nat):Int):=by rw[wrap64_sub (by omega),subW_comm hc0 hp hb]
  have w10:=wrap32 (subW (subW D[i] b) pl)
  have w11:=shr63 (subW (subW D[i] b) pl)
  have w12:IntKind.i64.wrap ((i:Int)+1)=((i+1:Nat):Int):=succ_i (by omega)
  have hms:=mid_set P D S j i (subW (subW D[i] b) pl % 4294967296) hj hiD
  rw[Nat.add_comm j i]at hms
  have d0:decide ((i:Int)<(n:Int))=true:=by simp;omega
  have d1:(0:Int)≤(i:Int):=by omega
  have d2:(i:Int)<(n:Int):=by omega
  have d3:(0:Int)≤((i+j:Nat):Int):=by omega
  have d5:((i+j:Nat):Int)<(L:Int):=by omega
  have d4:(i+j<(P++(D++S)).length)=True:=by simp;omega
  have hf:=A12 @cE_ment @hasK_nil @cE_kill @cE_len @u32_one @u32_app1 @u32_set @Nat.mul_one @pcSt.eq_1 @plH.eq_1 hat (A12 hbt w0 w1 w2 w3 w4 w5 w7 w8 w9 w10 (A9 w11 w12 hms d0 d1 d2 d3 d4 d5));refine sF ?_;(repeat' ((first|((with_reducible refine isE 85 (by decide) ?_);refine dR (rP 0 8 [] (rP 8 5 [6,7] (rP 13 3 [] []))) (rgL 85 14 []) [] ?_)|refine oB ?_|fail)<;>refine sF ?_<;>try with_reducible exact tT))<;>try clear hf
  exact ⟨n-(i+1),pcSt M P S B L j n q (i+1) _ _ (D.set i _),by omega,le_sub ⟨rfl,rfl,rfl,rfl,rfl,rfl,rfl,trivial⟩ ⟨rfl,rfl,trivial⟩ rfl rfl rfl (by simp[keepLt,pcSt,plH,lkH]),i+1,_,_,_,rfl,by omega,by rw[List.length_set];exact hD,okN_set hoD (Nat.mod_lt _ (by decide)),s2,hca2,by rw[take_val,hgy];exact st,rfl⟩
 obtain rfl:i=n:=by omega
 rw[take_all (by omega)]at hval
 have hiD:i<D.length:=by omega
 have hat:=u32_mid (S:=S) hj hiD
 have hc0:=okN_at hoD hiD
 have d0:decide ((i:Int)<(i:Int))=false:=by simp
 have d1:(0:Int)≤((j+i:Nat):Int):=by omega
 have d3:((j+i:Nat):Int)<(L:Int):=by omega
 have w0:IntKind.i64.wrap ((j:Int)+(i:Int))=((j+i:Nat):Int):=by rw[wrap_id (by omega) (by omega)];omega
 have d4:(j+i<(P++(D++S)).length)=True:=by simp;omega
 have w5:IntKind.u64.wrap (D[i]:Int)=(D[i]:Int):=wrap64_id (by omega)
 have w6:IntKind.u64.wrap ((D[i]:Int)-(ca:Int))=((subW D[i] ca:Nat):Int):=wrap64_sub (by omega)
 have w9:IntKind.u64.wrap (((subW D[i] ca:Nat):Int)-(b:Int))=((subW (subW D[i] b) ca:Nat):Int):=by rw[wrap64_sub (by omega),subW_comm hc0 hca hb]
 have w10:=wrap32 (subW (subW D[i] b) ca)
 have w11:=shr63 (subW (subW D[i] b) ca)
 have hms:=mid_set P D S j i (subW (subW D[i] b) ca % 4294967296) hj hiD
 obtain ⟨s1,s2⟩:=subW_3 hc0 hca hb
 have st:=red_last hiD hval s1
 have ho2:=okN_set (i:=i) hoD (Nat.mod_lt (subW (subW D[i] b) ca) (show 0<4294967296 by decide))
 have hl2:(D.set i (subW (subW D[i] b) ca % 4294967296)).length=i+1:=by rw[List.length_set];exact hD
 have hlt2:=valN_lt ho2
 rw[hl2]at hlt2
 have w13:IntKind.u32.wrap (q:Int)=(q:Int):=wrap32_id hq
 have hbb:subW (subW D[i] b) ca / 9223372036854775808=0∨subW (subW D[i] b) ca / 9223372036854775808=1:=by omega
 rcases hbb with hb0|hb1
 ·have d5:decide (((subW (subW D[i] b) ca / 9223372036854775808:Nat):Int)=0)=true:=by rw[hb0];rfl
  rw[hb0]at st
  obtain ⟨r1,r2,r3⟩:=red_ok hlt2 hCL hV st hq1
  rw[←r1]at hK r2
  have hf:=A12 @cE_ment @hasK_nil @cE_kill @cE_len @u32_one @u32_app1 @u32_set @Nat.mul_one @pcSt.eq_1 @plH.eq_1 w0 (A12 hat w5 w6 w9 w10 w11 w13 hms d0 d1 d3 (A3 d4 d5 e0));refine sF ?_;(repeat' ((first|((with_reducible refine isE 85 (by decide) ?_);refine dR (rP 0 8 [] (rP 8 5 [6,7] (rP 13 3 [] []))) (rgL 85 14 []) [] ?_)|refine oB ?_|fail)<;>refine sF ?_<;>try with_reducible exact tT))<;>try clear hf
  exact hK _ hl2 ho2 r2 r3
 have d5:decide (((subW (subW D[i] b) ca / 9223372036854775808:Nat):Int)=0)=false:=by rw[hb1];rfl
 rw[hb1]at st
 generalize hD2:D.set i (subW (subW D[i] b) ca % 4294967296)=D2 at *
 have hf:=A12 @cE_ment @hasK_nil @cE_kill @cE_len @u32_one @u32_app1 @u32_set @Nat.mul_one @pcSt.eq_1 @plH.eq_1 w0 (A12 hat w5 w6 w9 w10 w11 w13 hms d0 d1 d3 (A3 d4 d5 e0));refine sF ?_;(repeat' ((first|((with_reducible refine isE 85 (by decide) ?_);refine dR (rP 0 8 [] (rP 8 5 [6,7] (rP 13 3 [] []))) (rgL 85 14 []) [] ?_)|refine oB ?_|fail)<;>refine sF ?_<;>try with_reducible exact tT))<;>try clear hf
 refine ⟨fun d z=>∃k c E,d=i-k∧k≤i∧E.length=i+1∧okN E∧c≤1∧valN E+wN k*c=valN D2+valN (B.take k)∧z=pbSt M P S B L j i q k c E,
  ⟨i,pbSt M P S B L j i q 0 0 D2,le_sub ⟨rfl,rfl,rfl,rfl,rfl,rfl,trivial⟩ ⟨rfl,rfl,trivial⟩ rfl rfl rfl (by simp[keepLt,pbSt,plH,lkH]),⟨0,0,D2,rfl,by omega,hl2,ho2,by omega,by simp[valN],rfl⟩⟩,?_⟩
 clear hat w5 w6 w9 w10 w11 hms s1 s2 hb1 d5 hD2 hiD hoD hval hD hc0
 rintro d z ⟨k,c,E,rfl,hk,hE,hoE,hc,hval,rfl⟩
 by_cases hlt3:k<i
 case pos=>
  have hkE:k<E.length:=by omega
  have hkB:k<B.length:=by omega
  have hat:=u32_mid (S:=S) hj hkE
  rw[Nat.add_comm j k]at hat
  have hbt:=u32_at hkB
  have v0:IntKind.i64.wrap ((k:Int)+(j:Int))=((k+j:Nat):Int):=by rw[wrap_id (by omega) (by omega)];omega
  have hgy:B.getD k 0=B[k]:=by simp[List.getD,hkB]
  have hy:=okN_at hoB hkB
  have hc0:=okN_at hoE hkE
  have st2:=back_step hkE hval B[k]
  generalize B[k]=y at *
  have w1:IntKind.u64.wrap (y:Int)=(y:Int):=wrap64_id (by omega)
  have w5:IntKind.u64.wrap (E[k]:Int)=(E[k]:Int):=wrap64_id (by omega)
  have w6:IntKind.u64.wrap ((E[k]:Int)+(y:Int))=((E[k]+y:Nat):Int):=by rw[←Int.natCast_add,wrap64_id (by omega)]
  have w7:IntKind.u64.wrap ((c:Int)+((E[k]+y:Nat):Int))=((E[k]+y+c:Nat):Int):=by rw[←Int.natCast_add,Nat.add_comm,wrap64_id (by omega)]
  have w10:=wrap32 (E[k]+y+c)
  have w11:=shr32 (E[k]+y+c)
  have w12:IntKind.i64.wrap ((k:Int)+1)=((k+1:Nat):Int):=succ_i (by omega)
  have hms:=mid_set P E S j k ((E[k]+y+c) % 4294967296) hj hkE
  rw[Nat.add_comm j k]at hms
  have d0:decide ((k:Int)<(i:Int))=true:=by simp;omega
  have d1:(0:Int)≤(k:Int):=by omega
  have d2:(k:Int)<(i:Int):=by omega
  have d3:(0:Int)≤((k+j:Nat):Int):=by omega
  have d5:((k+j:Nat):Int)<(L:Int):=by omega
  have d4:(k+j<(P++(E++S)).length)=True:=by simp;omega
  have hc3:(E[k]+y+c) / 4294967296≤1:=by omega
  have hf:=A12 @cE_ment @hasK_nil @cE_kill @cE_len @u32_one @u32_app1 @u32_set @Nat.mul_one @pbSt.eq_1 @plH.eq_1 hat (A12 hbt v0 w1 w5 w6 w7 w10 w11 w12 hms d0 (A5 d1 d2 d3 d4 d5));refine sF ?_;(repeat' ((first|((with_reducible refine isE 85 (by decide) ?_);refine dR (rP 0 8 [] (rP 8 5 [6,7] (rP 13 3 [] []))) (rgL 85 14 []) [] ?_)|refine oB ?_|fail)<;>refine sF ?_<;>try with_reducible exact tT))<;>try clear hf
  exact ⟨i-(k+1),pbSt M P S B L j i q (k+1) _ (E.set k _),by omega,le_sub ⟨rfl,rfl,rfl,rfl,rfl,rfl,trivial⟩ ⟨rfl,rfl,trivial⟩ rfl rfl rfl (by simp[keepLt,pbSt,plH,lkH]),k+1,_,_,rfl,by omega,by rw[List.length_set];exact hE,okN_set hoE (Nat.mod_lt _ (by decide)),hc3,by rw[take_val,hgy];exact st2,rfl⟩
 obtain rfl:k=i:=by omega
 rw[take_all (by omega)]at hval
 have hkE:k<E.length:=by omega
 have hat:=u32_mid (S:=S) hj hkE
 have hc0:=okN_at hoE hkE
 have st2:=back_step hkE hval 0
 rw[Nat.mul_zero,Nat.add_zero,Nat.add_zero]at st2
 have d4:(j+k<(P++(E++S)).length)=True:=by simp;omega
 have w1:IntKind.u32.wrap (c:Int)=(c:Int):=wrap32_id (by omega)
 have w2:IntKind.u32.wrap ((E[k]:Int)+(c:Int))=(((E[k]+c) % 4294967296:Nat):Int):=by rw[←Int.natCast_add,wrap32]
 have hms:=mid_set P E S j k ((E[k]+c) % 4294967296) hj hkE
 have ho4:=okN_set (i:=k) hoE (Nat.mod_lt (E[k]+c) (show 0<4294967296 by decide))
 have hl4:(E.set k ((E[k]+c) % 4294967296)).length=k+1:=by rw[List.length_set];exact hE
 have hlt4:=valN_lt ho4
 rw[hl4]at hlt4
 obtain ⟨r1,r2,r3⟩:=red_back hV hBL hlt2 hlt4 st hq2 st2
 have hq0:1≤q:=by
  rcases Nat.eq_zero_or_pos q with h0|h0
  ·subst h0;omega
  ·exact h0
 have w3:IntKind.u64.wrap ((q:Int)-1)=((q-1:Nat):Int):=by rw[wrap64_i (by omega) (by omega)];omega
 have w4:IntKind.u32.wrap ((q-1:Nat):Int)=((q-1:Nat):Int):=wrap32_id (by omega)
 rw[←r1]at hK r2
 have hf:=A12 @cE_ment @hasK_nil @cE_kill @cE_len @u32_one @u32_app1 @u32_set @Nat.mul_one @pbSt.eq_1 @plH.eq_1 w0 (A11 hat w1 w2 w3 w4 hms d0 d1 d3 d4 e0);refine sF ?_;(repeat' ((first|((with_reducible refine isE 85 (by decide) ?_);refine dR (rP 0 8 [] (rP 8 5 [6,7] (rP 13 3 [] []))) (rgL 85 14 []) [] ?_)|refine oB ?_|fail)<;>refine sF ?_<;>try with_reducible exact tT))<;>try clear hf
 exact hK _ hl4 ho4 r2 r3
end
theorem full_len{l:List Nat}(ho:okN l)(h:(ofN (valN l)).length=l.length):l=ofN (valN l):=by
 refine canon ho fun hl h0=>?_
 have h1:=valN_cut l (show l.length-1≤l.length by omega)
 rw[valN_drop (show l.length-1<l.length by omega),List.drop_of_length_le (show l.length≤l.length-1+1 by omega),h0]at h1
 simp only[valN,Nat.mul_zero,Nat.add_zero]at h1
 have h2:=valN_lt (okN_take ho (l.length-1))
 rw[List.length_take,Nat.min_eq_left (by omega),←h1]at h2
 have:=ofN_len_le h2
 omega
theorem guess_facts{m:Nat}{C B:List Nat}(hC:C.length=m+3)(hB:B.length=m+2)(hoC:okN C)(hoB:okN B)(htop:2147483648≤B[m+1])(hlt:valN C<4294967296*valN B) :
  ∃p cr vr,cr<p∧vr<p∧valN C=((C[m+2]*4294967296+C[m+1])*4294967296+C[m])*p+cr∧valN B=(B[m+1]*4294967296+B[m])*p+vr∧C[m+2]≤B[m+1]:=by
 have hcC:valN C=(C[m+2]*4294967296+C[m+1])*(wN m*4294967296)+C[m]*wN m+valN (C.take m):=by
  rw[valN_cut C (show m≤C.length by omega),valN_drop (show m<C.length by omega),valN_drop (show m+1<C.length by omega),valN_drop (show m+2<C.length by omega),List.drop_of_length_le (show C.length≤m+2+1 by omega)]
  simp only[valN]
  grind
 have hcB:valN B=(B[m+1]*4294967296+B[m])*wN m+valN (B.take m):=by
  rw[valN_cut B (show m≤B.length by omega),valN_drop (show m<B.length by omega),valN_drop (show m+1<B.length by omega),List.drop_of_length_le (show B.length≤m+1+1 by omega)]
  simp only[valN]
  grind
 have hrC:valN (C.take m)<wN m:=by
  have:=valN_lt (okN_take hoC m)
  rwa[List.length_take,Nat.min_eq_left (by omega)]at this
 have hrB:valN (B.take m)<wN m:=by
  have:=valN_lt (okN_take hoB m)
  rwa[List.length_take,Nat.min_eq_left (by omega)]at this
 have b2:=okN_at hoC (show m+1<C.length by omega)
 have b3:=okN_at hoC (show m<C.length by omega)
 have b5:=okN_at hoB (show m<B.length by omega)
 have hpp:=wN_pos m
 refine ⟨wN m,_,_,hrC,hrB,?_,hcB,?_⟩
 ·rw[hcC];grind
 ·generalize hc0:C[m+2]=c0 at *
  generalize hc1:C[m+1]=c1 at *
  generalize hc2:C[m]=c2 at *
  generalize hv1:B[m+1]=v1 at *
  generalize hv2:B[m]=v2 at *
  generalize valN (C.take m)=cr at *
  generalize valN (B.take m)=vr at *
  generalize wN m=p at *
  generalize valN C=CC at *
  generalize valN B=V at *
  rcases Nat.lt_or_ge v1 c0 with h|h
  ·exfalso
   have a1:(v1*4294967296+v2+1)*p*4294967296≤(c0*4294967296)*4294967296*p:=by
    have:v1*4294967296+v2+1≤c0*4294967296:=by omega
    have:=Nat.mul_le_mul_right (p*4294967296) this
    grind
   grind
  ·exact h
section
variable {M:Mem}{K:AV→Hp→Mem→Prop}
theorem rtrim_part(k o m:Nat)(T:TypeId)(L:List Nat)(x:Nat)(h:OwnN L o m x)(hb:L.length<1000000000)(hK:∀w M',Mem.le M M'→IsL M' u32V w (ofN x)→FreshS M w→K (.ext w) [(k,T,cE u32V L)] M') :
  CallS Tryz.prog 170 [.slo k o m 1] [(k,T,cE u32V L)] M [] K:=by
 refine CallS.bor ⟨⟨_,rfl⟩,trivial⟩ fun us M' hM hb'=>?_
 obtain ⟨v1,_,rfl,h1,rfl⟩:=hb'
 have g1:=h1.part (g:=u32V) (L:=L) (T:=T) (by simp[lkH]) h.le
 rw[h.eq]at g1
 refine rtrim_ok v1 (ofN x) g1 (okN_ofN x) (by have:=h.len;have:=h.le;omega) fun w M2 h2 h3 h4=>?_
 rw[valN_ofN]at h3
 exact ⟨fun j hj=>rfl,fun M3 h5 h6 _=>hK w M3 h5 (h3.move h4 h6) (h4.le hM)⟩
def ss0(M:Mem)(u v:Value)(s:Nat):St:={env:=[(8,.ext (.int .i64 (s:Int))),(0,.ext u),(1,.ext v)],hp:=[],M:=M,kb:=0,fx:=[]}
def spSt(M:Mem)(la m n s j:Nat)(U B Q:List Nat):St:={env:=[(12,.ext (.int .i64 ((j:Int)-1))),(11,.ext (.int .i64 (n:Int))),(10,.slo 2011 0 n 1),(9,.slo 1011 0 (la+1) 1),(8,.ext (.int .i64 (s:Int))),(4,.slo 63 0 m 1)],hp:=[(1011,79,cE u32V U),(2011,79,cE u32V B),(63,79,cE u32V Q)],M:=M,kb:=0,fx:=[]}
def giSt(M:Mem)(la m n s i q r:Nat)(U B Q:List Nat):St:={env:=[(15,.ext (.int .u64 (r:Int))),(14,.ext (.int .u64 (q:Int))),(12,.ext (.int .i64 (i:Int))),(11,.ext (.int .i64 (n:Int))),(10,.slo 2011 0 n 1),(9,.slo 1011 0 (la+1) 1),(8,.ext (.int .i64 (s:Int))),(4,.slo 63 0 m 1)],hp:=[(1011,79,cE u32V U),(2011,79,cE u32V B),(63,79,cE u32V Q)],M:=M,kb:=0,fx:=[]}
theorem shl32s{t s:Nat}(h:t*2^s<4294967296)(hs:s<32):IntKind.u32.wrap ((t:Int)*2^(min s IntKind.u32.bits))=((t*2^s:Nat):Int):=by
 have h1:min s IntKind.u32.bits=s:=by have:IntKind.u32.bits=32:=rfl;omega
 rw[h1,show ((t:Int)*2^s)=((t*2^s:Nat):Int) by simp,wrap32_id h]
theorem split_ok(u v:Value)(x y:Nat)(hu:IsL M u32V u (ofN x))(hv:IsL M u32V v (ofN y))(hx:(ofN x).length<10000000)(hy:(ofN y).length<10000000)(hy0:0<y)
  (hK:∀q r M',Mem.le M M'→IsL M' u32V q (ofN (x / y))→IsL M' u32V r (ofN (x % y))→FreshS M q→FreshS M r→K (.ext (.tuple #[q,r])) [] M'):CallS Tryz.prog 169 [.ext u,.ext v] [] M [] K:=by
 refine CallS.frzF ?_
 refine inlS (cs:=[]) Tryz.mixed Tryz.func169 rfl (by kernel_rfl) 0 rfl rfl ?_
 simp only[Tryz.f169]
 by_cases hlt:x<y
 ·have e1:x / y=0:=Nat.div_eq_of_lt hlt
  have e2:x % y=x:=Nat.mod_eq_of_lt hlt
  rw[e1,e2,ofN_zero]at hK
  have c1:=cmpN_lt hlt
  have hrow:=hu.row
  have hmp:List.map AV.ext (List.map u32V (ofN x))=cE u32V (ofN x):=rfl
  have hf:=A12 @cE_ment @hasK_nil @cE_kill @cE_len @u32_one @u32_app1 @u32_set @Nat.mul_one hu.one hv.one hu.len (A4 hu.sl hrow hmp c1);refine sF ?_;(repeat' ((first|((with_reducible refine yN ?_);refine kS 167 (rorder_ok u v x y hu hv (by omega) (by omega) ?_))|refine oB ?_|fail)<;>refine sF ?_<;>try with_reducible exact tT))<;>try clear hf
  exact FrzF.tup [.slice none 0 0] [] ((ofN x).map u32V) rfl (by simp) (fun w M' g1 g2 g3=>hK _ w M' g1 (isL_nil _ _ _) (by unfold IsL;exact g2) (freshS_nil _ _) g3)
 have c1:decide (cmpN x y<0)=false:=by
  rw[decide_eq_false_iff_not];unfold cmpN;rw[if_neg hlt];split<;>omega
 have hlen:=len_mono (show y≤x by omega)
 have hl1:0<(ofN y).length:=by
  rcases Nat.eq_zero_or_pos (ofN y).length with h|h
  ·have:=ofN_nil.1 (List.length_eq_zero_iff.1 h);omega
  ·exact h
 by_cases hone:(ofN y).length=1
 ·have d1:decide (((ofN y).length:Int)=1)=true:=by simp;omega
  have hyi:=hv.idx (P:=Tryz.prog) (T:=79) tk79 tz79 (by omega) hl1
  have hyv:(ofN y)[0]=y:=by
   have:=valN_ofN y
   generalize ofN y=l at *
   match l,hone with
   | [a],_=>simpa [valN] using this
  have hy32:y<4294967296:=by rw[←hyv];exact ofN_ok_at hl1
  rw[hyv]at hyi
  have w1:IntKind.u64.wrap (y:Int)=(y:Int):=wrap64_id (by omega)
  have hf:=A12 @cE_ment @hasK_nil @cE_kill @cE_len @u32_one @u32_app1 @u32_set @Nat.mul_one @u32V.eq_1 hu.one hv.one (A8 hv.len hv.sl c1 d1 w1 hyi @Int.natCast_zero @Int.cast_ofNat_Int);refine sF ?_;(repeat' ((first|((with_reducible refine yN ?_);first|refine kS 167 (rorder_ok u v x y hu hv (by omega) (by omega) ?_)|refine kS 183 (rsmall_ok u x y hu (by omega) hy0 hy32 (fun w M' h1 h2 h3=>Stop.mk ?_)))|refine oB ?_|fail)<;>refine sF ?_<;>try with_reducible exact tT))<;>try clear hf
  have hf:=h2.one;refine wH ?_;refine kN 138 (rof_ok (x % y) (by have:=Nat.mod_lt x hy0;omega) (fun w2 M2 g1 g2 g3=>sG ?_));all_goals clear hf
  refine wG (A2 h2.one g2.one) ?_
  exact .inl (hK _ _ _ (h1.trans g1) (h2.le g1) g2 h3 (g3.le h1))
 have d1:decide (((ofN y).length:Int)=1)=false:=by simp;omega
 obtain ⟨s,hs,hs32,hbl,hbt⟩:=nrm_plain (y:=y) (by omega)
 have ht32:=ofN_ok_at (show (ofN y).length-1<(ofN y).length by omega)
 have htn:=trimmed_ofN y (by omega)
 have w1:IntKind.i64.wrap (((ofN y).length:Int)-1)=(((ofN y).length-1:Nat):Int):=pred_i hl1 (by omega)
 have hn2:2≤(ofN y).length:=by omega
 obtain ⟨t,ht⟩:∃t,(ofN y)[(ofN y).length-1]'(by omega)=t:=⟨_,rfl⟩
 have hyi:=hv.idx (P:=Tryz.prog) (T:=79) tk79 tz79 (by omega) (show (ofN y).length-1<(ofN y).length by omega)
 rw[ht]at hs ht32 htn
 simp only[ht]at hyi
 clear ht
 generalize hl:(ofN x).length=la at *
 generalize hm:(ofN y).length=n at *
 have hf:=A12 @cE_ment @hasK_nil @cE_kill @cE_len @u32_one @u32_app1 @u32_set @Nat.mul_one @u32V.eq_1 hu.one hv.one (A5 hv.len hv.sl hm c1 d1);refine sF ?_;(repeat' ((first|((with_reducible refine yN ?_);refine kS 167 (rorder_ok u v x y hu hv (by omega) (by omega) ?_))|refine oB ?_|fail)<;>refine sF ?_<;>try with_reducible exact tT))<;>try clear hf
 have hbt1:t<2^blen t:=(blen_iff (blen t) t).1 (Nat.le_refl _)
 have hb32:=(blen_iff 32 t).2 (by omega)
 have hbp:0<blen t:=by
  rcases Nat.eq_zero_or_pos (blen t) with h|h
  ·have:=(blen_iff 0 t).1 (by omega);simp at this;omega
  ·exact h
 have hbt2:2^(blen t-1)≤t:=by
  rcases Nat.lt_or_ge t (2^(blen t-1)) with h|h
  ·have:=(blen_iff (blen t-1) t).2 h;omega
  ·exact h
 have hps:t*2^s<4294967296:=by
  have:t*2^s<2^blen t*2^s:=Nat.mul_lt_mul_of_pos_right hbt1 (Nat.two_pow_pos s)
  rw[←Nat.pow_add,show blen t+s=32 by omega]at this
  exact this
 have hps2:2147483648≤t*2^s:=by
  have:=Nat.mul_le_mul_right (2^s) hbt2
  rw[←Nat.pow_add,show blen t-1+s=31 by omega]at this
  exact this
 refine ⟨fun d z=>∃s',d=s-s'∧s'≤s∧z=ss0 M u v s',⟨s,ss0 M u v 0,le_sub ⟨rfl,rfl,rfl,trivial⟩ trivial rfl rfl rfl (keepLt0 _),⟨0,rfl,by omega,rfl⟩⟩,?_⟩
 rintro d z ⟨s',rfl,hs',rfl⟩
 have hpw:t*2^s'≤t*2^s:=Nat.mul_le_mul_left t (Nat.pow_le_pow_right (by decide) hs')
 have v1:=shl32s (t:=t) (s:=s') (by omega) (by omega)
 have d0:(0:Int)≤(s':Int):=by omega
 by_cases hlt2:s'<s
 ·have h1:t*2^s'<2147483648:=by
   have a1:t*2^s'<2^blen t*2^s':=Nat.mul_lt_mul_of_pos_right hbt1 (Nat.two_pow_pos s')
   rw[←Nat.pow_add]at a1
   have a2:2^(blen t+s')≤2^31:=Nat.pow_le_pow_right (by decide) (by omega)
   omega
  have d2:decide (((t*2^s':Nat):Int)<2147483648)=true:=by rw[decide_eq_true_eq];omega
  have w2:IntKind.i64.wrap ((s':Int)+1)=((s'+1:Nat):Int):=succ_i (by omega)
  refine wT (A12 @cE_ment @hasK_nil @cE_kill @cE_len @u32_one @u32_app1 @u32_set @Nat.mul_one @u32V.eq_1 @ss0.eq_1 hv.one (A9 hv.len hv.sl hm hyi w1 v1 d0 d2 w2)) ?_
  exact ⟨s-(s'+1),ss0 M u v (s'+1),by omega,le_sub ⟨rfl,rfl,rfl,trivial⟩ trivial rfl rfl rfl (keepLt0 _),s'+1,rfl,by omega,rfl⟩
 obtain rfl:s'=s:=by omega
 have d2:decide (((t*2^s':Nat):Int)<2147483648)=false:=by rw[decide_eq_false_iff_not];omega
 have o1:=ofN_len_lt (n:=y*2^s') (k:=n) (by omega)
 have w2:IntKind.i64.wrap (((la+1:Nat):Int)-(n:Int))=((la-n+1:Nat):Int):=by rw[wrap_id (by omega) (by omega)];omega
 have w3:IntKind.i64.wrap (((la-n+1:Nat):Int)-1)=((la-n+1:Nat):Int)-1:=wrap_id (by omega) (by omega)
 have hf:=A12 @cE_ment @hasK_nil @cE_kill @cE_len @u32_one @u32_app1 @u32_set @Nat.mul_one @u32V.eq_1 @ss0.eq_1 hu.one (A9 hv.one hv.len hv.sl hm hyi w1 v1 d0 d2);refine sF ?_;(repeat' ((first|((with_reducible first|refine yB ?_|refine yC ?_);first|refine kG 184 ?_|refine kS 184 (up_ok 1000 u (ofN x) s' hu (by omega) (okN_ofN x) hs32 (fun U0 h1 h2 h3=>Stop.mk ?_)))|((with_reducible refine isE 48 (by decide) ?_);refine dR [(0,[]),(1,[]),(3,[]),(4,[]),(6,[]),(7,[]),(2,[]),(5,[]),(8,[]),(9,[8]),(10,[])] (9 :: (rgL 48 9 [])) [] ?_)|refine oB ?_|fail)<;>refine sF ?_<;>try with_reducible exact tT))<;>try clear hf
 rw[hl]at h1
 rw[valN_ofN]at h3
 have hf:=A12 @cE_ment @hasK_nil @cE_kill @cE_len @u32_one @u32_app1 @u32_set @Nat.mul_one hu.one hv.one hv.len (A3 hv.sl hm hl);refine wH ?_;refine yG 184 ?_;refine sF ?_;refine up_ok 2000 v (ofN y) s' hv (by omega) (okN_ofN y) hs32 (fun V0 g1 g2 g3=>sG ?_);all_goals clear hf
 rw[hm]at g1
 rw[valN_ofN]at g3
 refine Stop.go ?_
 have hz0:AV.ext (Value.int .u32 0) :: List.map AV.ext (repN [Value.int .u32 0] (la-n))=cE u32V (List.replicate (la-n+1) 0):=cE_rep u32V (la-n+1) 0
 have d5:(0:Int)≤(n:Int):=by omega
 have d6:(n:Int)≤((n+1:Nat):Int):=by omega
 refine wT (A12 @cE_ment @hasK_nil @cE_kill @cE_len @u32_one @u32_app1 @u32_set @Nat.mul_one hu.one hv.one hv.len (A9 hv.sl hm hl d5 d6 w2 w3 hz0 @Nat.sub_zero)) ?_
 have hV:V0.take n=ofN (y*2^s'):=by
  have e:=valN_take_mod g2 (i:=n) (by omega)
  rw[g3,Nat.mod_eq_of_lt o1]at e
  have e2:=full_len (okN_take g2 n) (by rw[e,hbl,List.length_take];omega)
  rw[e]at e2
  exact e2
 have hvp:0<y*2^s':=Nat.mul_pos hy0 (Nat.two_pow_pos s')
 have hst:DivI (y*2^s') (la-n+1) (la-n+1) (la+1) U0 U0 (List.replicate (la-n+1) 0):=by
  refine div_start (n:=n) h1 h2 (by omega) ?_
  have a1:x<wN la:=ofN_len_lt (by omega)
  have a2:wN (n-1)≤y:=by
   rcases Nat.lt_or_ge y (wN (n-1)) with h|h
   ·have:=ofN_len_le h;omega
   ·exact h
  have a3:wN la=wN (n-1)*wN (la-n+1):=by rw[←wN_add,show n-1+(la-n+1)=la by omega]
  have a4:=Nat.mul_le_mul_right (wN (la-n+1)) a2
  have a5:x<y*wN (la-n+1):=by omega
  have a6:=Nat.mul_lt_mul_of_pos_right a5 (Nat.two_pow_pos s')
  rw[h3]
  grind
 have hB0:0<valN (ofN (y*2^s')):=by rw[valN_ofN];exact hvp
 obtain ⟨mq,hmq⟩:∃k,la-n+1=k:=⟨_,rfl⟩
 rw[hmq]at hst w3 hz0 ⊢
 refine ⟨fun d z=>∃j U Q,j=d∧j≤mq∧DivI (y*2^s') j mq (la+1) U0 U Q∧z=spSt M la mq n s' j U (ofN (y*2^s')) Q,
  ⟨mq,spSt M la mq n s' mq U0 (ofN (y*2^s')) (List.replicate mq 0),(le_take 2011 n 79 (cE u32V V0) rfl).trans (le_sub ⟨rfl,rfl,rfl,rfl,rfl,rfl,trivial⟩ (by simp[subHp,spSt,lkH,upH,cE_take,hV]) rfl rfl rfl (keepLt0 _)),⟨_,_,_,rfl,Nat.le_refl _,hst,rfl⟩⟩,?_⟩
 rintro d z ⟨j,U,Q,rfl,hj,hI,rfl⟩
 by_cases hlt:0<j
 case neg=>
  obtain rfl:j=0:=by omega
  have d2:decide ((0:Int)≤((0:Nat):Int)-1)=false:=by simp
  obtain ⟨e1,e2⟩:=div_end hI h3 hy0
  have hlq:=hI.lq
  have hlu:=hI.lu
  have hou:=hI.ou
  have hf:=A10 @cE_ment @hasK_nil @cE_kill @cE_len @u32_one @u32_app1 @u32_set @Nat.mul_one @spSt.eq_1 d2;refine wS ?_;refine yH 170 ?_;refine sF ?_;refine rtrim_bor 63 mq _ Q hlq.symm hI.oq (by omega) (fun w M' k1 k2 k3=>sG ?_);all_goals clear hf
  rw[e1]at k2
  have hf:=A8 @cE_ment @hasK_nil @cE_kill @cE_len @u32_one @u32_app1 @u32_set @Nat.mul_one;refine wH ?_;refine yH 181 ?_;refine sF ?_;refine down_ok 1011 0 (la+1) s' U (by omega) (by omega) (by omega) hou (fun U' o' m' k4 k5=>sG ?_);all_goals clear hf
  rw[List.drop_zero,List.take_of_length_le (by omega),e2]at k5
  have hf:=A8 @cE_ment @hasK_nil @cE_kill @cE_len @u32_one @u32_app1 @u32_set @Nat.mul_one;refine wH ?_;refine yH 170 ?_;refine sF ?_;refine rtrim_part 1011 o' m' _ U' (x % y) k5 (by omega) (fun w2 M2 k6 k7 k8=>sG ?_);all_goals clear hf
  refine wG (A2 k2.one k7.one) ?_
  exact .inl (hK _ _ _ (k1.trans k6) (k2.le k6) k7 k3 (k8.le k1))
 obtain ⟨i,rfl⟩:∃i,j=i+1:=⟨j-1,by omega⟩
 have ej:(((i+1:Nat):Int)-1)=(i:Int):=by omega
 have d2:decide ((0:Int)≤(i:Int))=true:=by simp
 obtain ⟨hU,hlC,hCV,hS0,hvC⟩:=div_part hI o1 (show i+(n+1)≤la+1 by omega)
 have hPl:(U.take i).length=i:=by rw[List.length_take,hI.lu];omega
 have hoC:okN ((U.drop i).take (n+1)):=okN_take (okN_drop hI.ou i) (n+1)
 have step:∀(C':List Nat) (d:Nat),C'.length=n+1→okN C'→valN C'+d*(y*2^s')=valN ((U.drop i).take (n+1))→valN C'<y*2^s'→d<4294967296→DivI (y*2^s') i mq (la+1) U0 (U.take i++(C'++U.drop (i+(n+1)))) (Q.set i d):=fun C' d f1 f2 f3 f4 f5=>
  div_step hI o1 (by omega) h1 (by omega) f1 f2 f3 f4 f5
 have hQl:=hI.lq
 generalize U.take i=P at *
 generalize (U.drop i).take (n+1)=C at *
 generalize U.drop (i+(n+1))=S at *
 subst hU
 clear hI hst hvC hV g1 g2 g3
 rw[←valN_ofN (y*2^s')]at hCV
 have hdC:valN C / valN (ofN (y*2^s'))<4294967296:=by rw[Nat.div_lt_iff_lt_mul hB0];exact hCV
 obtain ⟨m,rfl⟩:∃m,n=m+2:=⟨n-2,by omega⟩
 have htop:2147483648≤(ofN (y*2^s'))[m+1]'(by omega):=hbt (by omega)
 obtain ⟨p,cr,vr,hcr,hvr,hcC,hcB,ht⟩:=guess_facts hlC hbl hoC (okN_ofN _) htop hCV
 have b1:=okN_at hoC (show m+2<C.length by omega)
 have b2:=okN_at hoC (show m+1<C.length by omega)
 have b3:=okN_at hoC (show m<C.length by omega)
 have b4:=ofN_ok_at (show m+1<(ofN (y*2^s')).length by omega)
 have b5:=ofN_ok_at (show m<(ofN (y*2^s')).length by omega)
 have i1:=u32_mid (S:=S) hPl (show m+2<C.length by omega)
 have i2:=u32_mid (S:=S) hPl (show m+1<C.length by omega)
 have i3:=u32_mid (S:=S) hPl (show m<C.length by omega)
 have j1:=u32_at (show m+1<(ofN (y*2^s')).length by omega)
 have j2:=u32_at (show m<(ofN (y*2^s')).length by omega)
 generalize C[m+2]=c0 at *
 generalize C[m+1]=c1 at *
 generalize C[m]=c2 at *
 generalize (ofN (y*2^s'))[m+1]=v1 at *
 generalize (ofN (y*2^s'))[m]=v2 at *
 have x0:IntKind.i64.wrap ((i:Int)+((m+2:Nat):Int))=((i+(m+2):Nat):Int):=by rw[wrap_id (by omega) (by omega)];omega
 have x1:IntKind.i64.wrap (((i+(m+2):Nat):Int)-1)=((i+(m+1):Nat):Int):=by rw[wrap_id (by omega) (by omega)];omega
 have x2:IntKind.i64.wrap (((i+(m+2):Nat):Int)-2)=((i+m:Nat):Int):=by rw[wrap_id (by omega) (by omega)];omega
 have x3:IntKind.i64.wrap (((m+2:Nat):Int)-1)=((m+1:Nat):Int):=by rw[wrap_id (by omega) (by omega)];omega
 have x4:IntKind.i64.wrap (((m+2:Nat):Int)-2)=((m:Nat):Int):=by rw[wrap_id (by omega) (by omega)];omega
 have y0:(0:Int)≤((i+(m+2):Nat):Int):=by omega
 have y1:(0:Int)≤((i+(m+1):Nat):Int):=by omega
 have y2:(0:Int)≤((i+m:Nat):Int):=by omega
 have y3:(0:Int)≤((m+1:Nat):Int):=by omega
 have y4:(0:Int)≤(m:Int):=by omega
 have z0:((i+(m+2):Nat):Int)<((la+1:Nat):Int):=by omega
 have z1:((i+(m+1):Nat):Int)<((la+1:Nat):Int):=by omega
 have z2:((i+m:Nat):Int)<((la+1:Nat):Int):=by omega
 have z3:((m+1:Nat):Int)<((m+2:Nat):Int):=by omega
 have z4:(m:Int)<((m+2:Nat):Int):=by omega
 have u0:IntKind.u64.wrap (c0:Int)=(c0:Int):=wrap64_id (by omega)
 have u1:IntKind.u64.wrap (c1:Int)=(c1:Int):=wrap64_id (by omega)
 have u2:IntKind.u64.wrap (c2:Int)=(c2:Int):=wrap64_id (by omega)
 have u3:IntKind.u64.wrap (v1:Int)=(v1:Int):=wrap64_id (by omega)
 have u4:IntKind.u64.wrap (v2:Int)=(v2:Int):=wrap64_id (by omega)
 have w5:=shl32 b1
 have w6:=or32 b1 b2
 obtain ⟨top,htp⟩:∃top,c0*4294967296+c1=top:=⟨_,rfl⟩
 rw[htp]at w6 hcC
 have ht2:top≤v1*4294967296+4294967295:=by omega
 have w7:=quo64 (s:=top) (d:=v1) (by omega)
 have w8:=rem64 top v1
 have n1:((v1:Int)=0)=False:=by simp;omega
 have w11:IntKind.i64.wrap ((i:Int)-1)=(i:Int)-1:=wrap_id (by omega) (by omega)
 have d3:(0:Int)≤(i:Int):=by omega
 have d6:(i:Int)<(mq:Int):=by omega
 have d7:(i<Q.length)=True:=by simp;omega
 have hf:=A12 @cE_ment @hasK_nil @cE_kill @cE_len @u32_one @u32_app1 @u32_set @Nat.mul_one @u32V.eq_1 @spSt.eq_1 ej (A12 d2 i1 i2 j1 x0 x1 x3 y0 y1 y3 z0 (A10 z1 z3 u0 u1 u3 w5 w6 w7 w8 n1));refine sF ?_;(repeat' ((first|((with_reducible refine isE 73 (by decide) ?_);refine dR (rP 0 8 [] (rP 8 8 [5,6] [(16,[]),(17,[])])) (rgL 73 16 []) [] ?_)|((with_reducible refine isE 90 (by decide) ?_);refine dR (rP 0 8 [] (rP 8 8 [5,6] [(16,[13,14]),(17,[])])) (14 :: (rgL 90 16 [])) [] ?_)|refine oB ?_|fail)<;>refine sF ?_<;>try with_reducible exact tT))<;>try clear hf
 refine ⟨fun d z=>∃q r,q=d∧valN C / valN (ofN (y*2^s'))≤q∧q*v1+r=top∧r<8589934592∧z=giSt M la mq (m+2) s' i q r (P++(C++S)) (ofN (y*2^s')) Q,
  ⟨top / v1,giSt M la mq (m+2) s' i (top / v1) (top % v1) (P++(C++S)) (ofN (y*2^s')) Q,le_sub ⟨rfl,rfl,rfl,rfl,rfl,rfl,rfl,rfl,trivial⟩ ⟨rfl,rfl,rfl,trivial⟩ rfl rfl rfl (keepLt0 _),⟨_,_,rfl,guess_init hcB hcC hcr b3 (by omega),by rw[Nat.mul_comm];exact Nat.div_add_mod top v1,Nat.lt_trans (Nat.mod_lt _ (by omega)) (by omega),rfl⟩⟩,?_⟩
 clear w5 w6 w7 w8 i1 i2
 rintro d z ⟨q,r,rfl,hqd,hqr,hr,rfl⟩
 by_cases hrW:4294967296≤r
 ·have d1:decide ((r:Int)<4294967296)=false:=by simp;omega
  obtain ⟨h5,h6⟩:=guess_brk (u2:=c2) hqr ht2 b5 (by omega) hrW
  have h7:=guess_exit hcB hcC hvr htop hqr h5 h6
  have hf:=A12 @cE_ment @hasK_nil @cE_kill @cE_len @u32_one @u32_app1 @u32_set @Nat.mul_one @u32V.eq_1 @giSt.eq_1 @plH.eq_1 (A11 d1 x0 x2 x3 x4 y2 y3 y4 z2 z3 z4);refine sF ?_;(repeat' ((first|((with_reducible first|refine yA ?_|refine yC ?_);first|refine kH 185 ?_|refine kS 185 (place_ok P C S (ofN (y*2^s')) (la+1) i (m+2) q (by omega) hPl hlC hbl (by omega) (by omega) hoC (okN_ofN _) (h5) hB0 hqd (h7) (fun C' f1 f2 f3 f4=>Stop.mk ?_)))|((with_reducible refine isE 106 (by decide) ?_);refine dR (rP 0 14 [] (rP 14 11 [11,12] (rP 25 3 [] []))) (rgL 112 19 []) [] ?_)|refine oB ?_|fail)<;>refine sF ?_<;>try with_reducible exact tT))<;>try clear hf
  rw[valN_ofN]at f3 f4 hdC ⊢
  have st:=step C' _ f1 f2 f3 f4 hdC
  refine wG (A12 @cE_ment @hasK_nil @cE_kill @cE_len @u32_one @u32_app1 @u32_set @Nat.mul_one @plH.eq_1 d3 d6 (A2 d7 w11)) ?_
  exact ⟨i,spSt M la mq (m+2) s' i _ _ _,by omega,le_sub ⟨rfl,rfl,rfl,rfl,rfl,rfl,trivial⟩ ⟨rfl,rfl,rfl,trivial⟩ rfl rfl rfl (keepLt0 _),i,_,_,rfl,by omega,st,rfl⟩
 have d1:decide ((r:Int)<4294967296)=true:=by simp;omega
 have body:∀(h:4294967296≤q∨r*4294967296+c2<q*v2),1≤q∧valN C / valN (ofN (y*2^s'))≤q-1∧(q-1)*v1+(r+v1)=top∧IntKind.u64.wrap ((q:Int)-1)=((q-1:Nat):Int)∧IntKind.u64.wrap ((r:Int)+(v1:Int))=((r+v1:Nat):Int):=fun h=>by
  obtain ⟨h1,h2⟩:=guess_dec hcB hcC hcr hCV hqr hqd h
  have hq2:q≤top / v1:=by rw[Nat.le_div_iff_mul_le (by omega)];omega
  have hq3:q≤top:=Nat.le_trans hq2 (Nat.div_le_self _ _)
  have h6:1≤q:=Nat.le_trans (Nat.le_add_left 1 _) h1
  exact ⟨h6,Nat.le_sub_one_of_lt h1,h2,by rw[wrap64_i (by omega) (by omega)];omega,by rw[←Int.natCast_add,wrap64_id (by omega)]⟩
 by_cases hqW:4294967296≤q
 ·have d4:decide ((4294967296:Int)≤(q:Int))=true:=by simp;omega
  obtain ⟨h1,h2,h3,w7,w8⟩:=body (.inl hqW)
  have hf:=A12 @cE_ment @hasK_nil @cE_kill @cE_len @u32_one @u32_app1 @u32_set @Nat.mul_one @u32V.eq_1 @giSt.eq_1 d1 (A12 d4 i3 j1 j2 x0 x2 x3 x4 y2 y3 y4 (A8 z2 z3 z4 u2 u3 u4 w7 w8));refine sF ?_;(repeat' ((first|((with_reducible refine isE 106 (by decide) ?_);refine dR (rP 0 14 [] (rP 14 11 [11,12] (rP 25 3 [] []))) (rgL 112 19 []) [] ?_)|((with_reducible refine isE 134 (by decide) ?_);refine dR (rP 0 10 [] [(10,[7,8]),(11,[])]) (rgL 134 10 []) [14] ?_)|refine oB ?_|fail)<;>refine sF ?_<;>try with_reducible exact tT))<;>try clear hf
  exact ⟨q-1,giSt M la mq (m+2) s' i (q-1) (r+v1) _ _ _,by omega,le_sub ⟨rfl,rfl,rfl,rfl,rfl,rfl,rfl,rfl,trivial⟩ ⟨rfl,rfl,rfl,trivial⟩ rfl rfl rfl (keepLt0 _),_,_,rfl,h2,h3,by omega,rfl⟩
 have d4:decide ((4294967296:Int)≤(q:Int))=false:=by simp;omega
 have hm2:=mul_le (show q<4294967296 by omega) b5
 have w9:IntKind.u64.wrap ((q:Int)*(v2:Int))=((q*v2:Nat):Int):=by rw[←Int.natCast_mul,wrap64_id (by omega)]
 have w10:=shl32 (show r<4294967296 by omega)
 have w12:=or32 (show r<4294967296 by omega) b3
 by_cases hc:r*4294967296+c2<q*v2
 ·have d5:decide (((r*4294967296+c2:Nat):Int)<((q*v2:Nat):Int))=true:=by rw[decide_eq_true_eq];exact Int.ofNat_lt.2 hc
  obtain ⟨h1,h2,h3,w7,w8⟩:=body (.inr hc)
  have hf:=A12 @cE_ment @hasK_nil @cE_kill @cE_len @u32_one @u32_app1 @u32_set @Nat.mul_one @u32V.eq_1 @giSt.eq_1 d1 (A12 d4 d5 i3 j1 j2 x0 x2 x3 x4 y2 y3 (A12 y4 z2 z3 z4 u2 u3 u4 w7 w8 w9 w10 w12));refine sF ?_;(repeat' ((first|((with_reducible refine isE 106 (by decide) ?_);refine dR (rP 0 14 [] (rP 14 11 [11,12] (rP 25 3 [] []))) (rgL 112 19 []) [] ?_)|((with_reducible refine isE 134 (by decide) ?_);refine dR (rP 0 10 [] [(10,[7,8]),(11,[])]) (rgL 134 10 []) [14] ?_)|refine oB ?_|fail)<;>refine sF ?_<;>try with_reducible exact tT))<;>try clear hf
  exact ⟨q-1,giSt M la mq (m+2) s' i (q-1) (r+v1) _ _ _,by omega,le_sub ⟨rfl,rfl,rfl,rfl,rfl,rfl,rfl,rfl,trivial⟩ ⟨rfl,rfl,rfl,trivial⟩ rfl rfl rfl (keepLt0 _),_,_,rfl,h2,h3,by omega,rfl⟩
 ·have d5:decide (((r*4294967296+c2:Nat):Int)<((q*v2:Nat):Int))=false:=by rw[decide_eq_false_iff_not];exact fun h=>hc (Int.ofNat_lt.1 h)
  have h7:=guess_exit hcB hcC hvr htop hqr (by omega) (show q*v2≤r*4294967296+c2 by omega)
  have hf:=A12 @cE_ment @hasK_nil @cE_kill @cE_len @u32_one @u32_app1 @u32_set @Nat.mul_one @u32V.eq_1 @giSt.eq_1 @plH.eq_1 (A12 d1 d4 d5 i3 j1 j2 x0 x2 x3 x4 y2 (A11 y3 y4 z2 z3 z4 u2 u3 u4 w9 w10 w12));refine sF ?_;(repeat' ((first|((with_reducible first|refine yA ?_|refine yC ?_);first|refine kH 185 ?_|refine kS 185 (place_ok P C S (ofN (y*2^s')) (la+1) i (m+2) q (by omega) hPl hlC hbl (by omega) (by omega) hoC (okN_ofN _) (by omega) hB0 hqd (h7) (fun C' f1 f2 f3 f4=>Stop.mk ?_)))|((with_reducible refine isE 106 (by decide) ?_);refine dR (rP 0 14 [] (rP 14 11 [11,12] (rP 25 3 [] []))) (rgL 112 19 []) [] ?_)|refine oB ?_|fail)<;>refine sF ?_<;>try with_reducible exact tT))<;>try clear hf
  rw[valN_ofN]at f3 f4 hdC ⊢
  have st:=step C' _ f1 f2 f3 f4 hdC
  refine wG (A12 @cE_ment @hasK_nil @cE_kill @cE_len @u32_one @u32_app1 @u32_set @Nat.mul_one @plH.eq_1 d3 d6 (A2 d7 w11)) ?_
  exact ⟨i,spSt M la mq (m+2) s' i _ _ _,by omega,le_sub ⟨rfl,rfl,rfl,rfl,rfl,rfl,trivial⟩ ⟨rfl,rfl,rfl,trivial⟩ rfl rfl rfl (keepLt0 _),i,_,_,rfl,by omega,st,rfl⟩
end
theorem zeros_plain{x n c a q r:Nat}(hx:x=wN n*(a+4294967296*r))(ha:a=2^c*q)(ha2:a<4294967296)(hq:q % 2=1):c<32∧∃s,x=2^(32*n+c)*s∧s % 2=1:=by
 have hc:c<32:=by
  rcases Nat.lt_or_ge c 32 with h|h
  ·exact h
  ·have h1:2^32≤2^c:=Nat.pow_le_pow_right (by decide) h
   have h2:=Nat.mul_le_mul_left (2^c) (show 1≤q by omega)
   omega
 refine ⟨hc,q+2^(32-c)*r,?_,?_⟩
 ·have h1:2^c*2^(32-c)=4294967296:=by rw[←Nat.pow_add,show c+(32-c)=32 by omega]
  rw[hx,ha,wN_two,Nat.pow_add,←h1]
  generalize 2^(32*n)=A
  generalize 2^c=B
  generalize 2^(32-c)=D
  grind
 ·obtain ⟨d,hd⟩:∃d,32-c=d+1:=⟨32-c-1,by omega⟩
  rw[hd,Nat.pow_succ,Nat.mul_comm (2^d) 2,Nat.mul_assoc]
  omega
section
variable {M:Mem}{K:AV→Hp→Mem→Prop}
def zeSt(M:Mem)(u:Value)(n:Nat):St:={env:=[(3,.ext (.int .i64 (n:Int))),(0,.ext u)],hp:=[],M:=M,kb:=0,fx:=[]}
def zfSt(M:Mem)(k a:Nat):St:={env:=[(5,.ext (.int .u32 (a:Int))),(4,.ext (.int .i64 (k:Int)))],hp:=[],M:=M,kb:=0,fx:=[]}
theorem zeros_ok(u:Value)(x:Nat)(hu:IsL M u32V u (ofN x))(hx:(ofN x).length<100000000)(hx0:0<x)(hK:∀e q:Nat,e<32*(ofN x).length→x=2^e*q→q % 2=1→K (.ext (.int .i64 (e:Int))) [] M):CallS Tryz.prog 180 [.ext u] [] M [] K:=by
 refine inlS (cs:=[]) Tryz.mixed Tryz.func180 rfl (by kernel_rfl) 0 rfl rfl ?_
 simp only[Tryz.f180]
 refine wT (A11 @cE_ment @hasK_nil @cE_kill @cE_len @u32_one @u32_app1 @u32_set @Nat.mul_one hu.one hu.len hu.sl) ?_
 refine ⟨fun d z=>∃n,d=(ofN x).length-n∧n≤(ofN x).length∧x=wN n*valN ((ofN x).drop n)∧z=zeSt M u n,⟨(ofN x).length,zeSt M u 0,le_sub ⟨rfl,rfl,trivial⟩ trivial rfl rfl rfl (keepLt0 _),⟨0,rfl,by omega,by rw[List.drop_zero,valN_ofN];simp[wN],rfl⟩⟩,?_⟩
 rintro d z ⟨n,rfl,hn,hv,rfl⟩
 have hnl:n<(ofN x).length:=by
  rcases Nat.lt_or_ge n (ofN x).length with h|h
  ·exact h
  ·rw[List.drop_of_length_le h,show valN []=0 from rfl]at hv;omega
 have hxi:=hu.idx (P:=Tryz.prog) (T:=79) tk79 tz79 (by omega) hnl
 have ha:=ofN_ok_at hnl
 have hdr:=valN_drop hnl
 rw[hdr]at hv
 obtain ⟨a,hae⟩:∃a,(ofN x)[n]=a:=⟨_,rfl⟩
 rw[hae]at ha hv
 simp only[hae]at hxi
 clear hae hdr
 generalize hr:valN ((ofN x).drop (n+1))=r at *
 generalize hl:(ofN x).length=la at *
 have w1:IntKind.i64.wrap ((n:Int)+1)=((n+1:Nat):Int):=succ_i (by omega)
 by_cases h0:a=0
 ·have d1:decide ((a:Int)=0)=true:=by simp;omega
  refine wT (A12 @cE_ment @hasK_nil @cE_kill @cE_len @u32_one @u32_app1 @u32_set @Nat.mul_one @zeSt.eq_1 @u32V.eq_1 hu.one (A6 hu.len hu.sl hl hxi d1 w1)) ?_
  exact ⟨la-(n+1),zeSt M u (n+1),by omega,le_sub ⟨rfl,rfl,trivial⟩ trivial rfl rfl rfl (keepLt0 _),n+1,rfl,by omega,by
   rw[h0,Nat.zero_add]at hv
   rw[wN_succ,hr,hv]
   grind,rfl⟩
 have d1:decide ((a:Int)=0)=false:=by simp;omega
 have w2:IntKind.i64.wrap (32*(n:Int))=((32*n+0:Nat):Int):=by rw[wrap_id (by omega) (by omega)];omega
 refine wT (A12 @cE_ment @hasK_nil @cE_kill @cE_len @u32_one @u32_app1 @u32_set @Nat.mul_one @zeSt.eq_1 @u32V.eq_1 hu.one (A6 hu.len hu.sl hl hxi d1 w2)) ?_
 refine ⟨fun d z=>∃c q,q=d∧0<q∧q<4294967296∧c≤32∧a=2^c*q∧z=zfSt M (32*n+c) q,⟨a,zfSt M (32*n+0) a,le_sub ⟨rfl,rfl,trivial⟩ trivial rfl rfl rfl (keepLt0 _),⟨0,a,rfl,by omega,ha,by omega,by simp,rfl⟩⟩,?_⟩
 rintro d z ⟨c,q,rfl,hq0,hq1,hc,hac,rfl⟩
 have w3:(q:Int).tmod 2=((q % 2:Nat):Int):=by rw[show (2:Int)=((2:Nat):Int) from rfl,←Int.ofNat_tmod]
 have w4:IntKind.u32.wrap ((q:Int).tdiv 2)=((q / 2:Nat):Int):=by
  rw[show (2:Int)=((2:Nat):Int) from rfl,←Int.ofNat_tdiv,wrap32_id (by omega)]
 have w5:IntKind.u32.wrap ((q % 2:Nat):Int)=((q % 2:Nat):Int):=wrap32_id (by omega)
 have w6:IntKind.i64.wrap (((32*n+c:Nat):Int)+1)=((32*n+(c+1):Nat):Int):=by rw[wrap_id (by omega) (by omega)];omega
 by_cases he:q % 2=0
 ·have d2:decide (((q % 2:Nat):Int)=0)=true:=by rw[he];rfl
  refine wT (A12 @cE_ment @hasK_nil @cE_kill @cE_len @u32_one @u32_app1 @u32_set @Nat.mul_one @zfSt.eq_1 d2 w3 (A3 w4 w5 w6)) ?_
  have hq2:q=2*(q / 2):=by omega
  have hac2:a=2^(c+1)*(q / 2):=by
   rw[Nat.pow_succ,Nat.mul_assoc,←hq2];exact hac
  exact ⟨q / 2,zfSt M (32*n+(c+1)) (q / 2),by omega,le_sub ⟨rfl,rfl,trivial⟩ trivial rfl rfl rfl (keepLt0 _),c+1,q / 2,rfl,by omega,by omega,by
   rcases Nat.lt_or_ge c 32 with h|h
   ·omega
   ·have h1:2^32≤2^c:=Nat.pow_le_pow_right (by decide) h
    have h2:=Nat.mul_le_mul_left (2^c) (show 1≤q by omega)
    omega,hac2,rfl⟩
 ·have d2:decide (((q % 2:Nat):Int)=0)=false:=by rw[show q % 2=1 by omega];rfl
  obtain ⟨hc2,s,hs1,hs2⟩:=zeros_plain hv hac ha (show q % 2=1 by omega)
  refine wT (A12 @cE_ment @hasK_nil @cE_kill @cE_len @u32_one @u32_app1 @u32_set @Nat.mul_one @zfSt.eq_1 d2 w3 (A3 w4 w5 w6)) ?_
  exact hK _ s (by omega) hs1 hs2
theorem zeros_bor(k o m:Nat)(T:TypeId)(L:List Nat)(x:Nat)(h:OwnN L o m x)(hb:L.length<100000000)(hx0:0<x)(hK:∀e q:Nat,e<32*(ofN x).length→x=2^e*q→q % 2=1→K (.ext (.int .i64 (e:Int))) [(k,T,cE u32V L)] M):CallS Tryz.prog 180 [.slo k o m 1] [(k,T,cE u32V L)] M [] K:=by
 refine CallS.bor ⟨⟨_,rfl⟩,trivial⟩ fun us M' hM hb'=>?_
 obtain ⟨v1,_,rfl,h1,rfl⟩:=hb'
 have g1:=h1.part (g:=u32V) (L:=L) (T:=T) (by simp[lkH]) h.le
 rw[h.eq]at g1
 exact zeros_ok v1 x g1 (by have:=h.len;have:=h.le;omega) hx0 fun e q h1 h2 h3=>BorK.same (hK e q h1 h2 h3)
theorem order_bor(k1 k2 o1 m1 o2 m2:Nat)(hne:k1≠k2)(T:TypeId)(L1 L2:List Nat)(x y:Nat)(h:OwnN L1 o1 m1 x)(g:OwnN L2 o2 m2 y)(hb1:L1.length<100000000)(hb2:L2.length<100000000)(hK:K (.ext (.int .i64 (cmpN x y))) [(k1,T,cE u32V L1),(k2,T,cE u32V L2)] M) :
  CallS Tryz.prog 167 [.slo k1 o1 m1 1,.slo k2 o2 m2 1] [(k1,T,cE u32V L1),(k2,T,cE u32V L2)] M [] K:=by
 refine CallS.bor ⟨⟨_,rfl⟩,⟨_,rfl⟩,trivial⟩ fun us M' hM hb'=>?_
 obtain ⟨v1,_,rfl,h1,v2,_,rfl,h2,rfl⟩:=hb'
 have g1:=h1.part (g:=u32V) (L:=L1) (T:=T) (by simp[lkH]) h.le
 have g2:=h2.part (g:=u32V) (L:=L2) (T:=T) (by simp[lkH,hne,hne.symm]) g.le
 rw[h.eq]at g1
 rw[g.eq]at g2
 exact rorder_ok v1 v2 x y g1 g2 (by have:=h.len;have:=h.le;omega) (by have:=g.len;have:=g.le;omega) (BorK.same hK)
end
end Go.Proofs.YtiipiciemgdaeaaGreat.Sx
