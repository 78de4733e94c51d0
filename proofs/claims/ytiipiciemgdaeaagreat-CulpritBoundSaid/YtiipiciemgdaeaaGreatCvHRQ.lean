/- The last part of the texts of this claim: its own law. -/
import Derived.Test.YtiipiciemgdaeaaGreatUAP5
namespace Go.Proofs.YtiipiciemgdaeaaGreat.Sx
open Go Go.RowKit
set_option linter.unusedVariables false
set_option linter.unusedSimpArgs false
set_option maxRecDepth 100000
set_option maxHeartbeats 8000000
attribute [local congr] fin_congr finG_congr stepG_congr step1_congr runOps_congr brv_congr obl_congr condK_congr LoopK_congr seqK_congr CutK_congr vc_congr DrawK_congr regK_congr CallK_congr AskK_congr newK_congr retC_congr ret1_congr retK_congr outV_congr closeK_congr genR_congr appR_congr finD_congr finGD_congr stepGD_congr stepD_congr CallK0_congr runD_congr okR_congr CallS_congr vcX_congr
attribute [local congr] Stop_congr
set_option exponentiation.threshold 5000
theorem CallS.eqv{P:Program}{f:FuncId}{args:List AV}{H H2:Hp}{M:Mem}{mv:List Nat}{K:AV→Hp→Mem→Prop}(he:∀k,lkH H k=lkH H2 k)(h:CallS P f args H2 M mv K):CallS P f args H M mv K:=
 CallS_eqv (fun k=>(he k).symm) h
section
variable {M:Mem}{K:AV→Hp→Mem→Prop}{v:SeV}{l u:List Int}{P:List FR}{fl dt d:LP}{b:List Bool}
theorem whole0_ok(hK:∀w1 w2 M',Mem.le M M'→IsF M' w1 w2 (ofN 0) (ofN 1)→K (.ext (.agg #[w1,w2])) [] M'):CallS Tryz.prog 62 [.ext (.int .i64 0)] [] M [] K:=by
 refine inlS (cs:=[]) Tryz.mixed Tryz.func62 rfl (by kernel_rfl) 0 rfl rfl ?_
 simp only[Tryz.f62]
 have e:ofF 0 1=(0,0,1):=by decide +kernel
 refine sU ?_;(repeat' ((first|((with_reducible refine yN ?_);refine kS 100 (fof_ok 0 1 (by decide) (by decide) (by decide) (by decide) (fun w1 w2 M1 m1 g1 g2 f1 f2=>Stop.mk ?_)))|refine oB ?_|fail)<;>refine sU ?_<;>try with_reducible exact tT))
 rw[e]at g1 g2
 have p1:=g1.one
 have p2:=g2.one
 have hk:=hK w1 w2 M1 m1 ⟨g1,g2,okN_ofN _,okN_ofN _,by rw[ofN_zero];decide,by decide +kernel⟩
 refine wG (A3 e p1 p2) ?_
 exact hk
def od0V:Value:=.agg #[.slice none 0 0,.slice none 0 0,.slice none 0 0,.slice none 0 0,.slice none 0 0,.slice none 0 0]
def evS(l:List Int)(P:List FR)(fl dt d:LP)(most:Int):Nat×Nat×Nat:=evX l (setsL l 2) (numL fl) (numL dt) (numL d) most.toNat (startX l (P.map numF))
def evD(l:List Int)(P:List FR)(fl dt:LP)(most:Int):Nat:=lsum (startX l (P.map numF))*((numL fl).2*(numL dt).2)^most.toNat
theorem evD_sm{M:Mem}{v:SeV}{l:List Int}{P:List FR}{fl dt d:LP}(hv:SeI M v l P (P.map numF) (numL fl) (numL dt) (numL d)){most:Int}(h5:most≤5):Sm (evD l P fl dt most)∧0<evD l P fl dt most:=by
 obtain ⟨h1,h2,_⟩:=start_sum hv.c hv.no hv.nl
 obtain ⟨_,f6⟩:=hv.fo.le1
 obtain ⟨_,g6⟩:=hv.go.le1
 have f7:=hv.fo.2.1
 have g7:=hv.go.2.1
 have hB:(numL fl).2*(numL dt).2≤1000000:=Nat.le_trans (Nat.mul_le_mul f6 g6) (by decide)
 refine ⟨(smC (j:=5) (by decide)).le ?_,Nat.mul_pos h2 (Nat.pow_pos (Nat.mul_pos (by omega) (by omega)))⟩
 unfold evD
 refine Nat.mul_le_mul h1 (Nat.le_trans (Nat.pow_le_pow_left hB _) (Nat.pow_le_pow_right (by decide) (by omega)))
theorem cerrors_ok(h:SeR M v l P fl dt d u b)
  (hK0:playS l P fl dt d v.most u b=none→∀M',Mem.le M M'→K (.ext (.tuple #[od0V,.int .i64 1])) [] M')
  (hK1:(playS l P fl dt d v.most u b).isSome=true→(5<v.most∨4<l.length)→∀M',Mem.le M M'→K (.ext (.tuple #[od0V,.int .i64 2])) [] M')
  (hK:(playS l P fl dt d v.most u b).isSome=true→v.most≤5→l.length≤4→∀o M',Mem.le M M'→OdI M' o (evS l P fl dt d v.most) (evD l P fl dt v.most)→K (.ext (.tuple #[o.v,.int .i64 0])) [] M') :
  CallS Tryz.prog 35 [.ext v.v] [] M [] K:=by
 refine inlS (cs:=[]) Tryz.mixed Tryz.func35 rfl (by kernel_rfl) 0 rfl rfl ?_
 simp only[Tryz.f35]
 have oo:=h.ones
 have n1:=h.r.len
 have s1:=h.r.sl
 have hf:=A2 @SeV.v.eq_1 oo;refine wS ?_;refine kN 17 (cCheck_ok h (fun M1 m1=>sG ?_));all_goals clear hf
 have m1:Mem.le M M1:=m1
 cases hp:playS l P fl dt d v.most u b with
 | none=>
  have hk:=hK0 hp M1 m1
  unfold od0V at hk
  refine Stop.go ?_
  refine Go1.mk ?_;repeat' ((first|(with_reducible refine Go1.go ?_)|(refine And.intro ?_ ?_;(try simp only[sxO]at *);omega)|fail)<;>(try simp (maxSteps:=1000000) only [Option.isSome_none,oo,↓hold_pre,awayP,runOps,regK,step1,newK,genR,appR,obl,buildR,Value.cells,closeK,keepH,outV,retK,ret1,retC,RetV,Option.getD,runD,stepD,afterK,undef,simprocAttr,sxB,↓sxD,sxE,sxTab]))
  exact hk
 | some X=>
 have hp1:(playS l P fl dt d v.most u b).isSome=true:=by rw[hp];rfl
 by_cases h5:5<v.most
 ·have hk:=hK1 hp1 (.inl h5) M1 m1
  unfold od0V at hk
  have d1:decide (5<v.most)=true:=decide_eq_true h5
  refine Stop.go ?_
  refine Go1.mk ?_;repeat' ((first|(with_reducible refine Go1.go ?_)|(refine And.intro ?_ ?_;(try simp only[sxO]at *);omega)|fail)<;>(try simp (maxSteps:=1000000) only [Option.isSome_some,d1,oo,n1,s1,↓hold_pre,awayP,runOps,regK,step1,newK,genR,appR,obl,buildR,Value.cells,closeK,keepH,outV,retK,ret1,retC,RetV,Option.getD,runD,stepD,afterK,undef,simprocAttr,sxB,↓sxD,sxE,sxTab]))
  exact hk
 have d1:decide (5<v.most)=false:=decide_eq_false h5
 by_cases h4:4<l.length
 ·have hk:=hK1 hp1 (.inr h4) M1 m1
  unfold od0V at hk
  have d2:decide ((4:Int)<(l.length:Int))=true:=by rw[decide_eq_true_eq];omega
  refine Stop.go ?_
  refine Go1.mk ?_;repeat' ((first|(with_reducible refine Go1.go ?_)|(refine And.intro ?_ ?_;(try simp only[sxO]at *);omega)|fail)<;>(try simp (maxSteps:=1000000) only [Option.isSome_some,d1,d2,oo,n1,s1,↓hold_pre,awayP,runOps,regK,step1,newK,genR,appR,obl,buildR,Value.cells,closeK,keepH,outV,retK,ret1,retC,RetV,Option.getD,runD,stepD,afterK,undef,simprocAttr,sxB,↓sxD,sxE,sxTab]))
  exact hk
 have d2:decide ((4:Int)<(l.length:Int))=false:=by rw[decide_eq_false_iff_not];omega
 have hs:=hp
 unfold playS at hs
 by_cases hh:chkC l P fl dt d v.most=0∧u.length=b.length∧(u.length:Int)≤v.most
 case neg=>rw[if_neg hh]at hs;cases hs
 obtain ⟨z1,z2,z3⟩:=hh
 obtain ⟨hv,hv1,hvm,hfg⟩:=h.ok z1
 clear hs
 refine Stop.go ?_
 refine Go1.mk ?_;repeat' ((first|(with_reducible refine Go1.go ?_)|(((with_reducible refine isCall (f:=62) ?_);refine callA_nil (by kernel_rfl) ?_;refine (whole0_ok (fun a1 a2 M2 m2 g2=>Stop.mk ?_))))|(refine And.intro ?_ ?_;(try simp only[sxO]at *);omega)|fail)<;>(try simp (maxSteps:=1000000) only [Option.isSome_some,d1,d2,oo,n1,s1,↓hold_pre,awayP,runOps,regK,step1,newK,genR,appR,obl,buildR,Value.cells,closeK,keepH,outV,retK,ret1,retC,RetV,Option.getD,runD,stepD,afterK,undef,simprocAttr,sxB,↓sxD,sxE,sxTab]))
 have m2:Mem.le M1 M2:=m2
 have p1:=g2.n.one
 have p2:=g2.d.one
 have hf:=A3 oo p1 p2;refine wH ?_;refine kN 62 (whole0_ok (fun a3 a4 M3 m3 g3=>sG ?_));all_goals clear hf
 have m3:Mem.le M2 M3:=m3
 have p3:=g3.n.one
 have p4:=g3.d.one
 have hf:=A5 oo p1 p2 p3 p4;refine wH ?_;refine kN 62 (whole0_ok (fun a5 a6 M4 m4 g4=>sG ?_));all_goals clear hf
 have m4:Mem.le M3 M4:=m4
 have p5:=g4.n.one
 have p6:=g4.d.one
 have m04:=m1.trans (m2.trans (m3.trans m4))
 have hf:=A7 oo p1 p2 p3 p4 p5 p6;refine wH ?_;refine kN 63 (begin_ok (hv.le m04) (fun w M5 m5 hw=>sG ?_));all_goals clear hf
 have m5:Mem.le M4 M5:=m5
 have m05:=m04.trans m5
 have o2:=hw.ones
 have hv5:=hv.le m05
 obtain ⟨f1,f2,f3,f4⟩:=hv.fo.sm
 obtain ⟨e1,e2,e3,e4⟩:=hv.go.sm
 have zy2:IsZ M5 v.y2 (numL fl).2:=⟨hv5.y.d,f4⟩
 have zx2:IsZ M5 v.x2 (numL dt).2:=⟨hv5.x.d,e4⟩
 obtain ⟨_,f6⟩:=hv.fo.le1
 obtain ⟨_,e6⟩:=hv.go.le1
 have hf:=A9 @scO.eq_1 oo o2 p1 p2 p3 p4 p5 p6;refine wH ?_;refine kN 64 (cMul zx2 zy2 ((smC (j:=1) (by decide)).le (Nat.le_trans (Nat.mul_le_mul e6 f6) (by decide))) (fun bs M6 m6 g6 _=>sG ?_));all_goals clear hf
 have m6:Mem.le M5 M6:=m6
 have m06:=m05.trans m6
 have p7:=g6.one
 rw[Nat.mul_comm]at g6
 obtain ⟨hsm,hDp⟩:=evD_sm hv (most:=v.most) (by omega)
 obtain ⟨hX1,hX2,_⟩:=start_sum hv.c hv.no hv.nl
 have hpx:PX (setsL l 2) (startX l (P.map numF)) (b0*1000000^0):=by rw[Nat.pow_zero,Nat.mul_one];exact start_px hv.c hv.no hv.nl
 have hB0:0<(numL fl).2*(numL dt).2:=Nat.mul_pos f2 e2
 have m26:=m3.trans (m4.trans (m5.trans m6))
 have hod:OdI M6 ⟨a1,a2,a3,a4,a5,a6⟩ (0,0,0) (evD l P fl dt v.most):=by
  have hr:=red_zero hDp
  refine ⟨?_,?_,?_⟩
  ·show IsF M6 a1 a2 (ofN (red 0 _).1) (ofN (red 0 _).2)
   rw[hr];exact g2.le m26
  ·show IsF M6 a3 a4 (ofN (red 0 _).1) (ofN (red 0 _).2)
   rw[hr];exact g3.le (m4.trans (m5.trans m6))
  ·show IsF M6 a5 a6 (ofN (red 0 _).1) (ofN (red 0 _).2)
   rw[hr];exact g4.le (m5.trans m6)
 obtain ⟨mm,hmm⟩:∃mm:Nat,v.most=(mm:Int):=⟨v.most.toNat,by omega⟩
 have hmt:v.most.toNat=mm:=by omega
 refine Stop.go ?_
 have hf:=A9 oo o2 p1 p2 p3 p4 p5 p6 p7;refine sF ?_;(repeat' ((first|((with_reducible first|refine yA ?_|refine yC ?_);first|refine kH 66 ?_|refine kS 66 (CallS.eqv (H2:=eoH ⟨a1,a2,a3,a4,a5,a6⟩ bs) (fun k=>?_) (visit_ok (D:=evD l P fl dt v.most) rfl hB0 hsm hvm mm 0 M6 w _ w.su bs _ _ (0,0,0) _ (by omega) (hv.le m06) (hw.le m6) hpx (hw.su.le m6) g6 hX2 (by unfold evD;rw[hmt]) hod (by unfold evD;rw[hmt];simp) (fun o M7 m7 g7=>Stop.mk ?_))))|refine oB ?_|fail)<;>refine sF ?_<;>try with_reducible exact tT))<;>try clear hf
 ·show _=lkH (eoH _ bs) k
  unfold eoH OdV.c
  simp only[lkH]
  by_cases k4:4=k
  ·subst k4;rfl
  by_cases k6:6=k
  ·subst k6;rfl
  by_cases k7:7=k
  ·subst k7;rfl
  by_cases k8:8=k
  ·subst k8;rfl
  simp only[if_neg k4,if_neg k6,if_neg k7,if_neg k8]
 have m7:Mem.le M6 M7:=m7
 have o3:=g7.ones
 have hadd:add3 (0,0,0) (evX l (setsL l 2) (numL fl) (numL dt) (numL d) mm (startX l (P.map numF)))=evS l P fl dt d v.most:=by
  unfold evS add3
  rw[hmt]
  simp only[Nat.zero_add]
 rw[hadd]at g7
 have hk:=hK hp1 (by omega) (by omega) o M7 (m06.trans m7) g7
 unfold OdV.v at hk
 refine wG (A12 @eoH.eq_1 @OdV.c.eq_1 oo o2 o3 p1 p2 p3 p4 p5 p6 p7) ?_
 exact hk
end
section
variable {M:Mem}{K:AV→Hp→Mem→Prop}
theorem cbound36_ok(u:Value)(t:List Int)(hu:IsL M intV64 u t)(hK:∀M',Mem.le M M'→K (.ext (.bool true)) [] M'):CallS Tryz.prog 8 [.ext u] [] M [] K:=by
 refine inlS (cs:=[]) Tryz.mixed Tryz.func8 rfl (by kernel_rfl) 22 rfl rfl ?_
 simp only[Tryz.f8]
 have uo:=hu.one
 have hf:=uo;refine wS ?_;refine yH 19 ?_;refine sF ?_;refine begun38_ok u t 4 3 (by decide) (by decide) (by decide) (by decide) hu (fun w L D N f g dl p M1 hp m1 hv hR hck hL hfg hm1 hm2=>sG ?_);all_goals clear hf
 have m1:Mem.le M M1:=m1
 have oo:=hR.ones
 have hpl:=playS_begin hck (by omega)
 have hf:=A3 @SeV.v.eq_1 uo oo;refine wH ?_;refine kN 35 (cerrors_ok hR (fun hp=>absurd (hpl.symm.trans hp) (by simp)) (fun _ hh=>hh.elim (fun h=>absurd h (by omega)) (fun h=>absurd h (by omega))) (fun _ _ _ o M2 m2 g2=>sG ?_));all_goals clear hf
 have m2:Mem.le M1 M2:=m2
 have o2:=g2.ones
 have hDN:D.map numF=N:=map_num hv.n
 obtain ⟨hsm0,hDp⟩:=evD_sm (fl:=opN f) (dt:=opN g) (d:=opN dl) (most:=w.most) (by rw[numL_opN,numL_opN,numL_opN,hDN];exact hv) (by omega)
 have hsm:Sm (evD L D (opN f) (opN g) w.most*1000):=by
  obtain ⟨h1,h2,_⟩:=start_sum hv.c hv.no hv.nl
  obtain ⟨_,f6⟩:=hv.fo.le1
  obtain ⟨_,g6⟩:=hv.go.le1
  have hB:f.2*g.2≤1000000:=Nat.le_trans (Nat.mul_le_mul f6 g6) (by decide)
  refine (smC (j:=5+1) (by decide)).le ?_
  unfold evD
  rw[numL_opN,numL_opN,hDN,←smC_succ]
  exact Nat.mul_le_mul (Nat.mul_le_mul h1 (Nat.le_trans (Nat.pow_le_pow_left hB _) (Nat.pow_le_pow_right (by decide) (by omega)))) (by decide)
 have hall:(evS L D (opN f) (opN g) (opN dl) w.most).1+(evS L D (opN f) (opN g) (opN dl) w.most).2.1+(evS L D (opN f) (opN g) (opN dl) w.most).2.2=evD L D (opN f) (opN g) w.most:=by
  unfold evS evD
  rw[numL_opN,numL_opN,numL_opN,hDN]
  exact evX_all (by have:=hv.fo.2.1;omega) (by have:=hv.go.2.1;omega) _ _ (by unfold startX;rw[List.length_map])
 have hbd:(evS L D (opN f) (opN g) (opN dl) w.most).1*dl.2≤((evS L D (opN f) (opN g) (opN dl) w.most).1+(evS L D (opN f) (opN g) (opN dl) w.most).2.1)*dl.1:=by
  unfold evS
  rw[numL_opN,numL_opN,numL_opN]
  exact evX_bound (by have:=hv.do_.2.1;omega) _ _
 generalize evS L D (opN f) (opN g) (opN dl) w.most=e at *
 generalize evD L D (opN f) (opN g) w.most=E at *
 obtain ⟨a,b,c⟩:=e
 simp only at hall hbd
 have g2f:IsF M2 o.f1 o.f2 (ofN (red a E).1) (ofN (red a E).2):=g2.f
 have g2s:IsF M2 o.s1 o.s2 (ofN (red b E).1) (ofN (red b E).2):=g2.s
 have g2p:IsF M2 o.p1 o.p2 (ofN (red c E).1) (ofN (red c E).2):=g2.p
 obtain ⟨q1,q2,q3,q4⟩:=hv.do_.sm
 have hd1:=hv.do_.2.1
 have hd2:=hv.do_.le1.2
 have hE:Sm E:=hsm0
 have hsumF:sumF [⟨o.f1,o.f2,ofN (red a E).1,ofN (red a E).2⟩,⟨o.s1,o.s2,ofN (red b E).1,ofN (red b E).2⟩,⟨o.p1,o.p2,ofN (red c E).1,ofN (red c E).2⟩]=(0,1,1):=by
  have h1:=sumF_red hDp hE (X:=[a,b,c]) (by simp only[lsum];exact hE.le (by omega))
  rw[show lsum [a,b,c]=E from by simp only[lsum];omega,red_self hDp]at h1
  rw[←h1]
  exact sumF_cong rfl
 have hok:okFL M2 [⟨o.f1,o.f2,ofN (red a E).1,ofN (red a E).2⟩,⟨o.s1,o.s2,ofN (red b E).1,ofN (red b E).2⟩,⟨o.p1,o.p2,ofN (red c E).1,ofN (red c E).2⟩]:=fun x hx=>by
  rcases List.mem_cons.1 hx with h|hx
  ·rw[h];exact g2f
  rcases List.mem_cons.1 hx with h|hx
  ·rw[h];exact g2s
  ·rw[List.mem_singleton.1 hx];exact g2p
 have hf:=A4 @OdV.v.eq_1 uo oo o2;refine wH ?_;refine yH 37 ?_;refine sF ?_;refine fsum_bor 56 3 _ rfl hok (show 3<1000000 by decide) (hsumF▸(fun s1 s2 M3 m3 g3 g4=>sG ?_));all_goals clear hf
 have m3:Mem.le M2 M3:=m3
 have c1:=g3.one
 have c2:=g4.one
 have e0:(sumF [⟨o.f1,o.f2,ofN (red a E).1,ofN (red a E).2⟩,⟨o.s1,o.s2,ofN (red b E).1,ofN (red b E).2⟩,⟨o.p1,o.p2,ofN (red c E).1,ofN (red c E).2⟩]).1=0:=by rw[hsumF]
 have hadd:=add_red (a:=a) (x:=b) hDp hE (hE.le (by omega))
 have e1:(addF (ofN (red a E).1) (ofN (red a E).2) (ofN (red b E).1) (ofN (red b E).2)).1=0:=by rw[hadd]
 have hf:=A9 e0 @frC_ment @frC_kill @hasK_nil uo oo o2 c1 c2;refine wH ?_;refine kN 38 (fadd_ok (g2f.le m3) (g2s.le m3) (fun w1 w2 M4 m4 k1 k2 _ _=>sG ?_));all_goals clear hf
 have m4:Mem.le M3 M4:=m4
 rw[hadd]at k1 k2
 have c3:=k1.one
 have c4:=k2.one
 have hS:=isF_red hDp (hE.le (by omega)) hE k1 k2
 have hmul:=mul_rr (x:=a+b) (d:=E) (y:=dl.1) (e:=dl.2) (z:=(a+b)*dl.1) (w:=E*dl.2) hDp q2 (Nat.mul_pos hDp q2) (hE.le (by omega)) hE q3 q4 (hsm.le (Nat.mul_le_mul (by omega) (by omega))) (hsm.le (Nat.mul_le_mul_left _ hd2)) rfl
 rw[red_okn hv.do_]at hmul
 have e2:(mulF (ofN (red (a+b) E).1) (ofN (red (a+b) E).2) (ofN dl.1) (ofN dl.2)).1=0:=by rw[hmul]
 have m14:=m2.trans (m3.trans m4)
 have hf:=A11 e1 @frC_ment @frC_kill @hasK_nil uo oo o2 c1 c2 c3 c4;refine wH ?_;refine kN 39 (fmul_ok hS (hv.d.le m14) (fun w3 w4 M5 m5 k3 k4 _ _=>sG ?_));all_goals clear hf
 have m5:Mem.le M4 M5:=m5
 rw[hmul]at k3 k4
 have c5:=k3.one
 have c6:=k4.one
 have hP:=isF_red (Nat.mul_pos hDp q2) (hsm.le (Nat.mul_le_mul (by omega) (by omega))) (hsm.le (Nat.mul_le_mul_left _ hd2)) k3 k4
 have m35:=m4.trans m5
 refine Stop.go ?_
 have hf:=A12 e2 @frC_ment @frC_kill @hasK_nil uo oo o2 c1 c2 c3 c4 (A2 c5 c6);refine sF ?_;(repeat' ((first|((with_reducible refine yM ?_);refine kS 12 (sml36_ok 1 1 (by decide) (by decide) (by decide) (by decide) (by decide) (fun x1 x2 M6 m6 f6=>Stop.mk ?_)))|((with_reducible refine isE 53 (by decide) ?_);refine dR (rP 0 16 [] ((16,[15]) :: (rP 17 5 [] ((22,[21]) :: (rP 23 6 [] ((29,[28]) :: (30,[28]) :: (rP 31 7 [] []))))))) (68 :: 69 :: (rgL 73 3 (rgL 80 4 []))) [] ?_)|refine oB ?_|fail)<;>refine sF ?_<;>try with_reducible exact tT))<;>try clear hf
 have m6:Mem.le M5 M6:=m6
 have c7:=f6.n.one
 have c8:=f6.d.one
 have ln1:(ofN 1).length<1000000000:=by have:=ofN1_len;omega
 have g3:IsL M3 u32V s1 (ofN 1):=g3
 have g4:IsL M3 u32V s2 (ofN 1):=g4
 have m36:=m35.trans m6
 have hc1:=cmp_red (x:=a) (d:=E) (y:=(a+b)*dl.1) (e:=E*dl.2) hDp (Nat.mul_pos hDp q2) (hE.le (by omega)) hE (hsm.le (Nat.mul_le_mul (by omega) (by omega))) (hsm.le (Nat.mul_le_mul_left _ hd2))
 have hc2:=cmp_red (x:=a) (d:=E) (y:=dl.1) (e:=dl.2) hDp q2 (hE.le (by omega)) hE q3 q4
 rw[red_okn hv.do_]at hc2
 have d1:decide (cmpF (ofN (red a E).1) (ofN (red a E).2) (ofN (red ((a+b)*dl.1) (E*dl.2)).1) (ofN (red ((a+b)*dl.1) (E*dl.2)).2)≤0)=true:=by
  rw[hc1,decide_eq_true_eq]
  have h1:a*(E*dl.2)≤(a+b)*dl.1*E:=by
   rw[show a*(E*dl.2)=a*dl.2*E by grind]
   exact Nat.mul_le_mul_right _ hbd
  unfold cmpN
  (repeat' split)<;>omega
 have d2:decide (cmpF (ofN (red a E).1) (ofN (red a E).2) (ofN dl.1) (ofN dl.2)≤0)=true:=by
  rw[hc2,decide_eq_true_eq]
  have h1:a*dl.2≤dl.1*E:=Nat.le_trans hbd (by rw[Nat.mul_comm dl.1];exact Nat.mul_le_mul_right _ (by omega))
  unfold cmpN
  (repeat' split)<;>omega
 refine Stop.go ?_
 have hf:=A12 @frC_ment @frC_kill @hasK_nil uo oo o2 c1 c2 c3 c4 c5 (A3 c6 c7 @c8);refine sF ?_;(repeat' ((first|((with_reducible refine yM ?_);refine kS 30 (sameFrac_ok (g3.le m36) (g4.le m36) f6.n f6.d ln1 ln1 (Stop.mk ?_)))|((with_reducible refine isE 53 (by decide) ?_);refine dR (rP 0 16 [] ((16,[15]) :: (rP 17 5 [] ((22,[21]) :: (rP 23 6 [] ((29,[28]) :: (30,[28]) :: (rP 31 7 [] []))))))) (68 :: 69 :: (rgL 73 3 (rgL 80 4 []))) [] ?_)|refine oB ?_|fail)<;>refine sF ?_<;>try with_reducible exact tT))<;>try clear hf
 refine Stop.go ?_
 have hf:=A12 @frC_ment @frC_kill @hasK_nil uo oo o2 c1 c2 c3 c4 c5 (A3 c6 c7 @c8);refine sF ?_;(repeat' ((first|((with_reducible refine yM ?_);refine kS 26 (fcmp_ok (g2f.le (m3.trans m36)) (hP.le m6) (fun M7 m7=>Stop.mk ?_)))|((with_reducible refine isE 53 (by decide) ?_);refine dR (rP 0 16 [] ((16,[15]) :: (rP 17 5 [] ((22,[21]) :: (rP 23 6 [] ((29,[28]) :: (30,[28]) :: (rP 31 7 [] []))))))) (68 :: 69 :: (rgL 73 3 (rgL 80 4 []))) [] ?_)|refine oB ?_|fail)<;>refine sF ?_<;>try with_reducible exact tT))<;>try clear hf
 have m7:Mem.le M6 M7:=m7
 refine Stop.go ?_
 have hf:=A12 d1 @frC_ment @frC_kill @hasK_nil uo oo o2 c1 c2 c3 c4 (A4 c5 c6 c7 @c8);refine sF ?_;(repeat' ((first|((with_reducible refine yM ?_);refine kS 26 (fcmp_ok (g2f.le ((m3.trans m36).trans m7)) (hv.d.le ((m14.trans (m5.trans m6)).trans m7)) (fun M8 m8=>Stop.mk ?_)))|((with_reducible refine isE 53 (by decide) ?_);refine dR (rP 0 16 [] ((16,[15]) :: (rP 17 5 [] ((22,[21]) :: (rP 23 6 [] ((29,[28]) :: (30,[28]) :: (rP 31 7 [] []))))))) (68 :: 69 :: (rgL 73 3 (rgL 80 4 []))) [] ?_)|refine oB ?_|fail)<;>refine sF ?_<;>try with_reducible exact tT))<;>try clear hf
 have m8:Mem.le M7 M8:=m8
 refine Stop.go ?_
 have hf:=A12 d1 d2 @frC_ment @frC_kill @hasK_nil uo oo o2 c1 c2 c3 (A5 c4 c5 c6 c7 @c8);refine sF ?_;(repeat' ((first|((with_reducible refine yM ?_);refine kS 18 (known36_ok (fun M9 m9=>Stop.mk ?_)))|((with_reducible refine isE 53 (by decide) ?_);refine dR (rP 0 16 [] ((16,[15]) :: (rP 17 5 [] ((22,[21]) :: (rP 23 6 [] ((29,[28]) :: (30,[28]) :: (rP 31 7 [] []))))))) (68 :: 69 :: (rgL 73 3 (rgL 80 4 []))) [] ?_)|refine oB ?_|fail)<;>refine sF ?_<;>try with_reducible exact tT))<;>try clear hf
 have hk:=hK M9 (m1.trans (m2.trans ((m3.trans m36).trans (m7.trans (m8.trans m9)))))
 refine Stop.go ?_
 have hf:=A5 @frC_ment @frC_kill @hasK_nil uo oo;refine sF ?_;(repeat' ((first|((with_reducible refine isE 53 (by decide) ?_);refine dR (rP 0 16 [] ((16,[15]) :: (rP 17 5 [] ((22,[21]) :: (rP 23 6 [] ((29,[28]) :: (30,[28]) :: (rP 31 7 [] []))))))) (68 :: 69 :: (rgL 73 3 (rgL 80 4 []))) [] ?_)|refine oB ?_|fail)<;>refine sF ?_<;>try with_reducible exact tT))<;>try clear hf
 exact hk
end
end Go.Proofs.YtiipiciemgdaeaaGreat.Sx
