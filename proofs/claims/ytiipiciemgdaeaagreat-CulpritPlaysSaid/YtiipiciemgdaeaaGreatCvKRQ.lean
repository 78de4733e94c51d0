/- The last part of the texts of this claim: its own law. -/
import Derived.Test.YtiipiciemgdaeaaGreatUAP5
namespace Go.Proofs.YtiipiciemgdaeaaGreat.Sx
open Go Go.RowKit
set_option linter.unusedVariables false
set_option linter.unusedSimpArgs false
set_option maxRecDepth 100000
set_option maxHeartbeats 8000000
attribute [local congr] fin_congr finG_congr stepG_congr step1_congr runOps_congr brv_congr obl_congr condK_congr LoopK_congr seqK_congr CutK_congr vc_congr DrawK_congr regK_congr CallK_congr AskK_congr newK_congr retC_congr ret1_congr retK_congr outV_congr closeK_congr genR_congr appR_congr finD_congr finGD_congr stepGD_congr stepD_congr CallK0_congr runD_congr okR_congr CallS_congr vcX_congr
attribute [local congr] Stop_congr
set_option exponentiation.threshold 5000
section
variable {M:Mem}{K:AV→Hp→Mem→Prop}
def cplSt(M:Mem)(u:Value)(p:Nat)(v w:SeV):St:={env:=[(6,.own 20 0),(4,.own 18 0),(3,.own 38 0)],hp:=[(20,37,w.c),(18,37,v.c),(38,25,[.ext u,.ext (.int .i64 (p:Int))])],M:=M,kb:=14,fx:=[]}
theorem cplays36_ok(u:Value)(t:List Int)(hu:IsL M intV64 u t)(hK:∀M',Mem.le M M'→K (.ext (.bool true)) [] M'):CallS Tryz.prog 5 [.ext u] [] M [] K:=by
 refine inlS (cs:=[]) Tryz.mixed Tryz.func5 rfl (by kernel_rfl) 14 rfl rfl ?_
 simp only[Tryz.f5]
 have uo:=hu.one
 have hf:=uo;refine wS ?_;refine yH 19 ?_;refine sF ?_;refine begun38_ok u t 3 4 (by decide) (by decide) (by decide) (by decide) hu (fun w L D N f g dl p M1 hp m1 hv hR hck hL hfg hm1 hm2=>sG ?_);all_goals clear hf
 have m1:Mem.le M M1:=m1
 have oo:=hR.ones
 obtain ⟨most,hmo⟩:∃most:Int,w.most=most:=⟨_,rfl⟩
 have hI:PlyI M1 w L D N f g dl most [] [] (startX L (D.map numF)):=⟨hR,hv.n,hmo,by rw[←hmo];exact playS_begin hck (by omega)⟩
 have hmo2:most≤4∧1≤most:=by omega
 refine wG (A3 @SeV.v.eq_1 uo oo) ?_
 refine ⟨fun d z=>∃M' w' D' w'' D'' uq bq X pp,d=most.toNat-uq.length∧Mem.le M1 M'∧PlyI M' w' L D' N f g dl most uq bq X∧PlyI M' w'' L D'' N f g dl most uq bq X∧pp≤200+uq.length∧z=cplSt M' u pp w' w'',
  ⟨most.toNat,cplSt M1 u p w w,le_sub ⟨rfl,rfl,rfl,trivial⟩ ⟨rfl,rfl,rfl,trivial⟩ rfl rfl rfl (keepLt_of rfl),⟨M1,w,D,w,D,[],[],_,p,by simp,Mem.le.refl _,hI,hI,by simp;omega,rfl⟩⟩,?_⟩
 clear oo hR hck hmo hI
 rintro d z ⟨M2,w2,D2,w3,D3,uq,bq,X,pp,rfl,m2,hI,hJ,hpp,rfl⟩
 have hR:=hI.r
 have hS:=hJ.r
 have oo:=hR.ones
 have o2:=hS.ones
 have hwm:=hI.m
 have hwn:=hJ.m
 have hpl:playS L D2 (opN f) (opN g) (opN dl) w2.most uq bq=some X:=by rw[hwm];exact hI.p
 have hpr:playS L D3 (opN f) (opN g) (opN dl) w3.most uq bq=some X:=by rw[hwn];exact hJ.p
 obtain ⟨hl1,hl2⟩:=playS_len hI.p
 have hu2:=hu.le (m1.trans m2)
 have hdo:=hv.do_
 have hwe:w3.most=w2.most:=by rw[hwm,hwn]
 obtain ⟨nx1,hnx1⟩:∃x,x=(nextX L (setsL L 2) dl w2.most X uq.length).1:=⟨_,rfl⟩
 obtain ⟨nx2,hnx2⟩:∃x,x=(nextX L (setsL L 2) dl w2.most X uq.length).2:=⟨_,rfl⟩
 have v1:(nextX L (setsL L 2) (numL (opN dl)) w2.most X uq.length).1=nx1:=by rw[numL_opN,←hnx1]
 have v2:(nextX L (setsL L 2) (numL (opN dl)) w2.most X uq.length).2=nx2:=by rw[numL_opN,←hnx2]
 have v3:(nextX L (setsL L 2) (numL (opN dl)) w3.most X uq.length).1=nx1:=by rw[hwe];exact v1
 have v4:(nextX L (setsL L 2) (numL (opN dl)) w3.most X uq.length).2=nx2:=by rw[hwe];exact v2
 have v5:decX (numL (opN dl)) X=decX dl X:=by rw[numL_opN]
 have d1:decide (nx1=nx1)=true:=by simp
 have d2:decide (nx2=nx2)=true:=by simp
 have d3:(decX dl X==decX dl X)=true:=by cases decX dl X<;>rfl
 obtain ⟨sb,hsb⟩:∃sb:Int,sb=(((setsL L 2).getD (bestN X X.length) 0:Nat):Int):=⟨_,rfl⟩
 have v6:=hsb.symm
 have d4:decide (sb=sb)=true:=by simp
 have hf:=A7 @cplSt.eq_1 v5 v6 @SeV.c.eq_1 uo oo o2;refine wS ?_;refine kN 25 (cFind_ok hR (fun hp=>absurd (hpl.symm.trans hp) (by simp)) (fun X' a1 a2 M3 hp m3 g3 g4=>sG ?_));all_goals clear hf
 have m3:Mem.le M2 M3:=m3
 cases hpl.symm.trans hp
 have p1:=g3.one
 have p2:=g4.one
 have hf:=A12 v1 v2 v3 v4 v5 v6 @SeV.c.eq_1 uo oo o2 p1 p2;refine wH ?_;refine kN 27 (rFind_ok (hS.le m3) (fun hp=>absurd (hpr.symm.trans hp) (by simp)) (fun X' a3 a4 M4 hp m4 g5=>sG ?_));all_goals clear hf
 have m4:Mem.le M3 M4:=m4
 cases hpr.symm.trans hp
 have p3:=g5.n.one
 have p4:=g5.d.one
 have hf:=A12 v1 v2 v3 v4 v5 v6 @SeV.c.eq_1 uo oo o2 p1 (A3 p2 p3 p4);refine wH ?_;refine kN 21 (cBelief_ok (hR.le (m3.trans m4)) (fun hp=>absurd (hpl.symm.trans hp) (by simp)) (fun X' wr ws ww M5 hp m5 hB hpx hv5=>sG ?_));all_goals clear hf
 have m5:Mem.le M4 M5:=m5
 cases hpl.symm.trans hp
 have p5:=hB.l.one
 have p6:=hB.s.one
 have p7:=hB.q.one
 have m25:=m3.trans (m4.trans m5)
 have hf:=A12 v1 v2 v3 v4 v5 v6 @SeV.c.eq_1 uo oo o2 p1 (A6 p2 p3 p4 p5 p6 p7);refine wH ?_;refine kN 28 (rBelief_ok (hS.le m25) (fun hp=>absurd (hpr.symm.trans hp) (by simp)) (fun X' xr xs xw M6 hp m6 hC _ hv6 _=>sG ?_));all_goals clear hf
 have m6:Mem.le M5 M6:=m6
 cases hpr.symm.trans hp
 have p8:=hC.l.one
 have p9:=hC.s.one
 have p10:=hC.q.one
 have m26:=m25.trans m6
 have hf:=A12 v1 v2 v3 v4 v5 v6 @SeV.c.eq_1 uo oo o2 p1 (A9 p2 p3 p4 p5 p6 p7 p8 p9 p10);refine wH ?_;refine kN 22 (cNext_ok (hR.le m26) (fun hp=>absurd (hpl.symm.trans hp) (by simp)) (fun X' M7 hp m7=>sG ?_));all_goals clear hf
 have m7:Mem.le M6 M7:=m7
 cases hpl.symm.trans hp
 have hf:=A12 v1 v2 v3 v4 v5 v6 @SeV.c.eq_1 d1 d2 d3 d4 (A12 uo oo o2 p1 p2 p3 p4 p5 p6 p7 p8 (A2 p9 p10));refine wH ?_;refine kN 29 (rNext_ok (hS.le (m26.trans m7)) (fun hp=>absurd (hpr.symm.trans hp) (by simp)) (fun X' M8 hp m8=>sG ?_));all_goals clear hf
 have m8:Mem.le M7 M8:=m8
 cases hpr.symm.trans hp
 have m28:=m26.trans (m7.trans m8)
 have m68:=m7.trans m8
 have g38:=g3.le (m4.trans (m5.trans (m6.trans m68)))
 have g48:=g4.le (m4.trans (m5.trans (m6.trans m68)))
 have g58:=g5.le (m5.trans (m6.trans m68))
 have b1:=g58.bn
 have b2:=g58.bd
 have hl8:=chk_len hv.c
 have hsl:=setsL_len hv.c (m:=2)
 have hql:(qX X).length<1000000:=by rw[qX_len,hpx.len];omega
 have hf:=A12 v1 v2 v3 v4 v5 v6 @SeV.c.eq_1 d1 d2 d3 d4 (A12 uo oo o2 p1 p2 p3 p4 p5 p6 p7 p8 (A2 p9 p10));refine wH ?_;refine kN 30 (sameFrac_ok g38 g48 g58.n g58.d (by omega) (by omega) (sG ?_));all_goals clear hf
 have hf:=A12 v1 v2 v3 v4 v5 v6 @SeV.c.eq_1 d1 d2 d3 d4 (A12 uo oo o2 p1 p2 p3 p4 p5 p6 p7 p8 (A2 p9 p10));refine wH ?_;refine kN 31 (same35_ok (hB.le (m6.trans m68)) (hC.le m68) (by omega) (by omega) hql (sG ?_));all_goals clear hf
 have hf:=A12 v1 v2 v3 v4 v5 v6 @SeV.c.eq_1 d1 d2 d3 d4 (A12 uo oo o2 p1 p2 p3 p4 p5 p6 p7 p8 (A2 p9 p10));refine wH ?_;refine kN 17 (cCheck_ok (hR.le m28) (fun M9 m9=>sG ?_));all_goals clear hf
 have m9:Mem.le M8 M9:=m9
 have m29:=m28.trans m9
 have hcs:(playS L D2 (opN f) (opN g) (opN dl) w2.most uq bq).isSome=true:=by rw[hpl];rfl
 have hu9:=hu2.le m29
 have hf:=A12 hcs @SeV.c.eq_1 d1 d2 d3 d4 uo oo o2 p1 p2 (A8 p3 p4 p5 p6 p7 p8 p9 p10);refine wH ?_;refine yH 32 ?_;refine sF ?_;refine chance_ok 38 u t pp 1 2 hu9 (by omega) (by omega) (by omega) (fun q=>sG ?_);all_goals clear hf
 have hR9:=hR.le m29
 have hS9:=hS.le m29
 have hDD:D3.map prV=D2.map prV:=hJ.n.trans hI.n.symm
 by_cases e0:nx2=0
 case neg=>
  have e1:¬(nextX L (setsL L 2) (numL (opN dl)) w2.most X uq.length).2=0:=by rw[v2];exact e0
  have e2:¬(nextX L (setsL L 2) (numL (opN dl)) w3.most X uq.length).2=0:=by rw[hwe];exact e1
  have d5:decide (nx2=0)=false:=decide_eq_false e0
  have hf:=A12 v1 v2 v3 v4 v5 v6 @SeV.c.eq_1 uo oo o2 p1 (A9 p2 p3 p4 p5 p6 p7 p8 p9 p10);refine wH ?_;refine kN 23 (creport_ok q hR9 (fun hp=>absurd (hpl.symm.trans hp) (by simp)) (fun X' hp he M10 m10=>sG ?_) (fun X' hp he=>absurd (by cases hpl.symm.trans hp;exact he) e1));all_goals clear hf
  have m10:Mem.le M9 M10:=m10
  cases hpl.symm.trans hp
  have hf:=A12 @se0V.eq_1 v1 v2 v3 v4 v5 v6 @SeV.c.eq_1 uo oo o2 (A10 p1 p2 p3 p4 p5 p6 p7 p8 p9 p10);refine wH ?_;refine kN 33 (rreport_ok q (hS9.le m10) (fun hp=>absurd (hpr.symm.trans hp) (by simp)) (fun X' hp he M11 m11=>sG ?_) (fun X' hp he=>absurd (by cases hpr.symm.trans hp;exact he) e2));all_goals clear hf
  have m11:Mem.le M10 M11:=m11
  cases hpr.symm.trans hp
  have hf:=A12 @se0V.eq_1 v1 v2 v3 v4 v5 v6 @SeV.c.eq_1 d2 d5 uo (A2 oo o2);refine wH ?_;refine kN 16 (same36_zero (sG ?_));all_goals clear hf
  have hf:=A12 @se0V.eq_1 v1 v2 v3 v4 v5 v6 @SeV.c.eq_1 d2 d5 uo (A2 oo o2);refine wH ?_;refine kN 18 (known36_ok (fun M12 m12=>sG ?_));all_goals clear hf
  have hk:=hK M12 (m1.trans (m2.trans (m29.trans (m10.trans (m11.trans m12)))))
  refine wG uo ?_
  exact hk
 have e1:(nextX L (setsL L 2) (numL (opN dl)) w2.most X uq.length).2=0:=by rw[v2];exact e0
 have e2:(nextX L (setsL L 2) (numL (opN dl)) w3.most X uq.length).2=0:=by rw[hwe];exact e1
 have hnx:nextX L (setsL L 2) dl most X uq.length=(nx1,0):=by rw[←hwm];exact Prod.ext hnx1.symm (hnx2.symm.trans e0)
 have hlt:=(nextX_set hv.c hnx).2.2
 have hf:=A12 v1 v2 v3 v4 v5 v6 @SeV.c.eq_1 uo oo o2 p1 (A9 p2 p3 p4 p5 p6 p7 p8 p9 p10);refine wH ?_;refine kN 23 (creport_ok q hR9 (fun hp=>absurd (hpl.symm.trans hp) (by simp)) (fun X' hp he=>absurd (by cases hpl.symm.trans hp;exact e1) he) (fun X' hp he w10 D10 M10 m10 hD10 hm10 hR10=>sG ?_));all_goals clear hf
 have m10:Mem.le M9 M10:=m10
 cases hpl.symm.trans hp
 rw[v1]at hR10
 have o3:=hR10.ones
 have hf:=A12 @SeV.v.eq_1 v1 v2 v3 v4 v5 v6 @SeV.c.eq_1 uo oo o2 (A11 o3 p1 p2 p3 p4 p5 p6 p7 p8 p9 p10);refine wH ?_;refine kN 33 (rreport_ok q (hS9.le m10) (fun hp=>absurd (hpr.symm.trans hp) (by simp)) (fun X' hp he=>absurd (by cases hpr.symm.trans hp;exact e2) he) (fun X' hp he w11 M11 m11 hm11 hS11=>sG ?_));all_goals clear hf
 have m11:Mem.le M10 M11:=m11
 cases hpr.symm.trans hp
 rw[v3]at hS11
 have o4:=hS11.ones
 have hR11:=hR10.le m11
 have hI11:=(hI.le (m29.trans (m10.trans m11))).snoc hnx hlt hD10 hm10 hR11
 have hJ11:=(hJ.le (m29.trans (m10.trans m11))).snoc hnx hlt rfl hm11 hS11
 have hf:=A12 @SeV.v.eq_1 v1 v2 v3 v4 v5 v6 @SeV.c.eq_1 d2 e0 uo (A4 oo o2 o3 o4);refine wH ?_;refine kN 16 (same36_ok hR11 hS11 (hDD.trans hD10.symm) (by rw[hm11,hm10,hwe]) (sG ?_));all_goals clear hf
 refine Stop.go ?_
 have hf:=A9 @SeV.v.eq_1 @SeV.c.eq_1 d2 e0 uo oo o2 o3 o4;refine sF ?_;(repeat' ((first|((with_reducible refine isE 140 (by decide) ?_);refine dR [(0,[]),(1,[0]),(2,[1]),(3,[])] [140,141] [] ?_)|refine oB ?_|fail)<;>refine sF ?_<;>try with_reducible exact tT))<;>try clear hf
 exact ⟨most.toNat-(uq.length+1),cplSt M11 u (pp+1) w10 w11,by omega,le_sub ⟨rfl,rfl,rfl,trivial⟩ ⟨rfl,rfl,rfl,trivial⟩ rfl rfl rfl (keepLt_of rfl),M11,w10,D10,w11,D3,_,_,_,pp+1,by rw[List.length_append];rfl,m2.trans (m29.trans (m10.trans m11)),hI11,hJ11,by rw[List.length_append];simp only[List.length_singleton];omega,rfl⟩
end
end Go.Proofs.YtiipiciemgdaeaaGreat.Sx
