/- The last part of the texts of this claim: its own law. -/
import Derived.Test.YtiipiciemgdaeaaGreatUAP5
namespace Go.Proofs.YtiipiciemgdaeaaGreat.Sx
open Go Go.RowKit
set_option linter.unusedVariables false
set_option linter.unusedSimpArgs false
set_option maxRecDepth 100000
set_option maxHeartbeats 8000000
attribute [local congr] fin_congr finG_congr stepG_congr step1_congr runOps_congr brv_congr obl_congr condK_congr LoopK_congr seqK_congr CutK_congr vc_congr DrawK_congr regK_congr CallK_congr AskK_congr newK_congr retC_congr ret1_congr retK_congr outV_congr closeK_congr genR_congr appR_congr finD_congr finGD_congr stepGD_congr stepD_congr CallK0_congr runD_congr okR_congr CallS_congr vcX_congr
attribute [local congr] Stop_congr
set_option exponentiation.threshold 5000
section
variable {M:Mem}{K:AV→Hp→Mem→Prop}
def cenSt(M:Mem)(u:Value)(p n:Nat)(w:SeV):St:={env:=[(6,.ext (.int .i64 (n:Int))),(4,.own 24 0),(3,.own 38 0)],hp:=[(24,37,w.c),(38,25,[.ext u,.ext (.int .i64 (p:Int))])],M:=M,kb:=20,fx:=[]}
theorem cends36_ok(u:Value)(t:List Int)(hu:IsL M intV64 u t)(hK:∀M',Mem.le M M'→K (.ext (.bool true)) [] M'):CallS Tryz.prog 9 [.ext u] [] M [] K:=by
 refine inlS (cs:=[]) Tryz.mixed Tryz.func9 rfl (by kernel_rfl) 20 rfl rfl ?_
 simp only[Tryz.f9]
 have uo:=hu.one
 have hf:=uo;refine wS ?_;refine yH 19 ?_;refine sF ?_;refine begun38_ok u t 3 6 (by decide) (by decide) (by decide) (by decide) hu (fun w L D N f g dl p M1 hp m1 hv hR hck hL hfg hm1 hm2=>sG ?_);all_goals clear hf
 have m1:Mem.le M M1:=m1
 have oo:=hR.ones
 obtain ⟨most,hmo⟩:∃most:Int,w.most=most:=⟨_,rfl⟩
 have hI:PlyI M1 w L D N f g dl most [] [] (startX L (D.map numF)):=⟨hR,hv.n,hmo,by rw[←hmo];exact playS_begin hck (by omega)⟩
 have hmo2:most≤6∧1≤most:=by omega
 refine wG (A3 @SeV.v.eq_1 uo oo) ?_
 refine ⟨fun d z=>∃M' w' D' uq bq X pp,d=most.toNat-uq.length∧Mem.le M1 M'∧PlyI M' w' L D' N f g dl most uq bq X∧pp≤200+uq.length∧z=cenSt M' u pp uq.length w',
  ⟨most.toNat,cenSt M1 u p 0 w,le_sub ⟨rfl,rfl,rfl,trivial⟩ ⟨rfl,rfl,trivial⟩ rfl rfl rfl (keepLt_of rfl),⟨M1,w,D,[],[],_,p,by simp,Mem.le.refl _,hI,by omega,rfl⟩⟩,?_⟩
 clear oo hR hck hmo
 rintro d z ⟨M2,w2,D2,uq,bq,X,pp,rfl,m2,hI,hpp,rfl⟩
 have hR:=hI.r
 have oo:=hR.ones
 have hwm:=hI.m
 have hpl:=hI.p
 rw[←hwm]at hpl
 obtain ⟨hl1,hl2⟩:=playS_len hI.p
 have hu2:=hu.le (m1.trans m2)
 have nq:=hR.q.len
 have sq:=hR.q.sl
 have d1:decide (w2.most<(uq.length:Int))=false:=by rw[decide_eq_false_iff_not];omega
 have d2:decide ((uq.length:Int)=(uq.length:Int))=true:=by simp
 have wn:IntKind.i64.wrap ((uq.length:Int)+1)=((uq.length+1:Nat):Int):=succ_i (by omega)
 have hf:=A4 @cenSt.eq_1 @SeV.c.eq_1 uo oo;refine wS ?_;refine kN 25 (cFind_ok hR (fun hp=>absurd (hpl.symm.trans hp) (by simp)) (fun X' w3 w4 M3 hp m3 g3 g4=>sG ?_));all_goals clear hf
 have m3:Mem.le M2 M3:=m3
 cases hpl.symm.trans hp
 rw[numL_opN]
 have p1:=g3.one
 have p2:=g4.one
 have hf:=A5 @SeV.c.eq_1 uo oo p1 p2;refine wH ?_;refine kN 21 (cBelief_ok (hR.le m3) (fun hp=>absurd (hpl.symm.trans hp) (by simp)) (fun X' wr ws ww M4 hp m4 hB hpx hv4=>sG ?_));all_goals clear hf
 have m4:Mem.le M3 M4:=m4
 cases hpl.symm.trans hp
 have p3:=hB.l.one
 have p4:=hB.s.one
 have p5:=hB.q.one
 have hbb:Sm (b0*1000000^uq.length*1000000):=by rw[smC_succ];exact smC (by omega)
 have hf:=A11 d1 d2 nq sq uo oo p1 p2 p3 p4 p5;refine wH ?_;refine kN 40 (bestX_ok hB hpx hv4.c hbb (fun c1 c2 M5 m5 g5=>sG ?_));all_goals clear hf
 have m5:Mem.le M4 M5:=m5
 have p6:=g5.n.one
 have p7:=g5.d.one
 have hdo:=hv.do_
 have hv5:=hv4.le m5
 refine Stop.go ?_
 have hf:=A11 nq sq uo oo p1 p2 p3 p4 p5 p6 p7;refine sF ?_;(repeat' ((first|((with_reducible refine yM ?_);refine kS 12 (sml36_ok 1 1 (by decide) (by decide) (by decide) (by decide) (by decide) (fun x1 x2 M6 m6 f6=>Stop.mk ?_)))|((with_reducible refine isE 64 (by decide) ?_);refine dR ((1,[]) :: (2,[]) :: (7,[2]) :: (0,[2]) :: (rP 3 4 [] [(8,[]),(9,[])])) (13 :: (rgL 63 7 [])) [] ?_)|refine oB ?_|fail)<;>refine sF ?_<;>try with_reducible exact tT))<;>try clear hf
 have m6:Mem.le M5 M6:=m6
 have p8:=f6.n.one
 have p9:=f6.d.one
 have hdF:IsF M6 w2.d1 w2.d2 (ofN dl.1) (ofN dl.2):=(hR.le (m3.trans (m4.trans (m5.trans m6)))).d
 obtain ⟨q1,q2,q3,q4⟩:=hdo.sm
 have hsub:=sub_1r (x:=dl.1) (d:=dl.2) q2 q3 q4 (by have:=hdo.2.1;omega)
 rw[red_okn hdo,red_okn hdo.oth]at hsub
 have e0:(subF (ofN 1) (ofN 1) (ofN dl.1) (ofN dl.2)).1=0:=by rw[hsub]
 refine Stop.go ?_
 have hf:=A12 nq sq uo oo p1 p2 p3 p4 p5 p6 p7 (A2 p8 p9);refine sF ?_;(repeat' ((first|((with_reducible refine yM ?_);refine kS 41 (fsub_ok f6 hdF (fun x3 x4 M7 m7 g7 g8 _ _=>Stop.mk ?_)))|((with_reducible refine isE 64 (by decide) ?_);refine dR ((1,[]) :: (2,[]) :: (7,[2]) :: (0,[2]) :: (rP 3 4 [] [(8,[]),(9,[])])) (13 :: (rgL 63 7 [])) [] ?_)|refine oB ?_|fail)<;>refine sF ?_<;>try with_reducible exact tT))<;>try clear hf
 have m7:Mem.le M6 M7:=m7
 rw[hsub]at g7 g8
 have r1:=g7.one
 have r2:=g8.one
 have hrest:IsF M7 x3 x4 (ofN (dl.2-dl.1)) (ofN dl.2):=⟨g7,g8,okN_ofN _,okN_ofN _,(q4.le (by omega)).big,q4.big⟩
 have m57:=m6.trans m7
 have hdc:=dec_cmp (dl:=dl) (X:=X) rfl hpx.sum (hbb.le (Nat.le_trans hpx.le (Nat.le_mul_of_pos_right _ (by decide)))) hdo
 have b1:=g5.bn
 have b2:=g5.bd
 have d3:decide ((((setsL L 2).getD (bestN X X.length) 0:Nat):Int)=(((setsL L 2).getD (bestN X X.length) 0:Nat):Int))=true:=by simp
 have d4:(decX dl X==decX dl X)=true:=by cases decX dl X<;>rfl
 have g3:=g3.le (m4.trans (m5.trans m57))
 have g4:=g4.le (m4.trans (m5.trans m57))
 generalize (((setsL L 2).getD (bestN X X.length) 0:Nat):Int)=sb at *
 have g5:=g5.le m57
 refine Stop.go ?_
 have hf:=A12 e0 d3 nq sq uo oo p1 p2 p3 p4 p5 (A6 p6 p7 p8 p9 r1 r2);refine sF ?_;(repeat' ((first|((with_reducible refine yM ?_);refine kS 30 (sameFrac_ok g5.n g5.d g3 g4 (by omega) (by omega) (Stop.mk ?_)))|((with_reducible refine isE 70 (by decide) ?_);refine dR (rP 0 14 [] ((14,[13]) :: (15,[13]) :: (rP 16 6 [] [(22,[21]),(23,[21,22]),(24,[21]),(25,[21]),(26,[]),(27,[])]))) (rgL 77 3 (rgL 83 3 (rgL 90 6 []))) [] ?_)|refine oB ?_|fail)<;>refine sF ?_<;>try with_reducible exact tT))<;>try clear hf
 refine Stop.go ?_
 have hf:=A12 d3 nq sq uo oo p1 p2 p3 p4 p5 p6 (A5 p7 p8 p9 r1 r2);refine sF ?_;(repeat' ((first|((with_reducible refine yM ?_);refine kS 26 (fcmp_ok g5 hrest (fun M8 m8=>Stop.mk ?_)))|((with_reducible refine isE 70 (by decide) ?_);refine dR (rP 0 14 [] ((14,[13]) :: (15,[13]) :: (rP 16 6 [] [(22,[21]),(23,[21,22]),(24,[21]),(25,[21]),(26,[]),(27,[])]))) (rgL 77 3 (rgL 83 3 (rgL 90 6 []))) [] ?_)|refine oB ?_|fail)<;>refine sF ?_<;>try with_reducible exact tT))<;>try clear hf
 have m8:Mem.le M7 M8:=m8
 have m28:=m3.trans (m4.trans (m5.trans (m57.trans m8)))
 have hR8:=hR.le m28
 have hu8:=hu2.le m28
 refine Stop.go ?_
 have hf:=A12 hdc d4 nq sq uo oo p1 p2 p3 p4 p5 (A6 p6 p7 p8 p9 r1 r2);refine sF ?_;(repeat' ((first|((with_reducible first|refine yB ?_|refine yC ?_);first|refine kG 32 ?_|refine kS 32 (chance_ok 38 u t pp 1 2 hu8 (by omega) (by omega) (by omega) (fun q=>Stop.mk ?_)))|((with_reducible refine isE 70 (by decide) ?_);refine dR (rP 0 14 [] ((14,[13]) :: (15,[13]) :: (rP 16 6 [] [(22,[21]),(23,[21,22]),(24,[21]),(25,[21]),(26,[]),(27,[])]))) (rgL 77 3 (rgL 83 3 (rgL 90 6 []))) [] ?_)|((with_reducible refine isE 99 (by decide) ?_);refine dR ((0,[]) :: (1,[0]) :: (7,[0]) :: (2,[0]) :: (rP 3 4 [] [(8,[]),(9,[])])) (15 :: (rgL 98 7 [])) [] ?_)|refine oB ?_|fail)<;>refine sF ?_<;>try with_reducible exact tT))<;>try clear hf
 have hps:playS L D2 (opN f) (opN g) (opN dl) w2.most uq bq=some X:=hpl
 rcases nextX_cases (l:=L) (s:=setsL L 2) (X:=X) (dl:=dl) hl2 with ⟨hd,hn⟩|⟨hd,hn0,hn⟩|⟨hd,hlt,hn⟩
 ·have hn':nextX L (setsL L 2) (numL (opN dl)) w2.most X uq.length=(0,45):=by rw[numL_opN,hwm];exact hn
  have k2:=congrArg Prod.snd hn'
  refine Stop.go ?_
  have hf:=A12 nq sq uo oo p1 p2 p3 p4 p5 p6 p7 (A4 p8 p9 r1 r2);refine sF ?_;(repeat' ((first|((with_reducible refine yM ?_);refine kS 23 (creport_ok q hR8 (fun hp=>absurd (hps.symm.trans hp) (by simp)) (fun X' hp he M9 m9=>Stop.mk ?_) (fun X' hp he=>absurd (by cases hps.symm.trans hp;exact he) (show ¬(nextX L (setsL L 2) (numL (opN dl)) w2.most X uq.length).2=0 by rw[hn'];decide))))|((with_reducible refine isE 99 (by decide) ?_);refine dR ((0,[]) :: (1,[0]) :: (7,[0]) :: (2,[0]) :: (rP 3 4 [] [(8,[]),(9,[])])) (15 :: (rgL 98 7 [])) [] ?_)|refine oB ?_|fail)<;>refine sF ?_<;>try with_reducible exact tT))<;>try clear hf
  have m9:Mem.le M8 M9:=m9
  cases hps.symm.trans hp
  have hf:=A12 @se0V.eq_1 k2 @hd nq sq uo oo p1 p2 p3 p4 (A7 p5 p6 p7 p8 p9 r1 r2);refine wH ?_;refine kN 18 (known36_ok (fun M10 m10=>sG ?_));all_goals clear hf
  have hk:=hK M10 (m1.trans (m2.trans (m28.trans (m9.trans m10))))
  refine wG uo ?_
  exact hk
 ·have hn':nextX L (setsL L 2) (numL (opN dl)) w2.most X uq.length=(0,47):=by rw[numL_opN,hwm];exact hn
  have k2:=congrArg Prod.snd hn'
  have d5:decide ((uq.length:Int)=w2.most)=true:=by rw[decide_eq_true_eq];omega
  refine Stop.go ?_
  have hf:=A12 nq sq uo oo p1 p2 p3 p4 p5 p6 p7 (A4 p8 p9 r1 r2);refine sF ?_;(repeat' ((first|((with_reducible refine yM ?_);refine kS 23 (creport_ok q hR8 (fun hp=>absurd (hps.symm.trans hp) (by simp)) (fun X' hp he M9 m9=>Stop.mk ?_) (fun X' hp he=>absurd (by cases hps.symm.trans hp;exact he) (show ¬(nextX L (setsL L 2) (numL (opN dl)) w2.most X uq.length).2=0 by rw[hn'];decide))))|((with_reducible refine isE 99 (by decide) ?_);refine dR ((0,[]) :: (1,[0]) :: (7,[0]) :: (2,[0]) :: (rP 3 4 [] [(8,[]),(9,[])])) (15 :: (rgL 98 7 [])) [] ?_)|refine oB ?_|fail)<;>refine sF ?_<;>try with_reducible exact tT))<;>try clear hf
  have m9:Mem.le M8 M9:=m9
  cases hps.symm.trans hp
  have hf:=A12 @se0V.eq_1 k2 @hd d5 nq sq uo oo p1 p2 p3 (A8 p4 p5 p6 p7 p8 p9 r1 r2);refine wH ?_;refine kN 18 (known36_ok (fun M10 m10=>sG ?_));all_goals clear hf
  have hk:=hK M10 (m1.trans (m2.trans (m28.trans (m9.trans m10))))
  refine wG uo ?_
  exact hk
 ·have hn':nextX L (setsL L 2) (numL (opN dl)) w2.most X uq.length=(((splitX L X (setsL L 2):Nat):Int),0):=by rw[numL_opN,hwm];exact hn
  have k1:=congrArg Prod.fst hn'
  refine Stop.go ?_
  have hf:=A12 nq sq uo oo p1 p2 p3 p4 p5 p6 p7 (A4 p8 p9 r1 r2);refine sF ?_;(repeat' ((first|((with_reducible refine yM ?_);refine kS 23 (creport_ok q hR8 (fun hp=>absurd (hps.symm.trans hp) (by simp)) (fun X' hp he=>absurd (by cases hps.symm.trans hp;exact congrArg Prod.snd hn') he) (fun X' hp he w9 D9 M9 m9 hD9 hm9 hR9=>Stop.mk ?_)))|((with_reducible refine isE 99 (by decide) ?_);refine dR ((0,[]) :: (1,[0]) :: (7,[0]) :: (2,[0]) :: (rP 3 4 [] [(8,[]),(9,[])])) (15 :: (rgL 98 7 [])) [] ?_)|refine oB ?_|fail)<;>refine sF ?_<;>try with_reducible exact tT))<;>try clear hf
  have m9:Mem.le M8 M9:=m9
  cases hps.symm.trans hp
  rw[k1]at hR9
  have hI9:=(hI.le m28).snoc hn hlt hD9 hm9 hR9
  have o9:=hR9.ones
  refine wG (A12 @SeV.v.eq_1 wn nq sq uo oo o9 p1 p2 p3 p4 (A7 p5 p6 p7 p8 p9 r1 r2)) ?_
  exact ⟨most.toNat-(uq.length+1),cenSt M9 u (pp+1) (uq++[((splitX L X (setsL L 2):Nat):Int)]).length w9,by omega,le_sub ⟨by simp[lk,cenSt],rfl,rfl,trivial⟩ ⟨rfl,rfl,trivial⟩ rfl rfl rfl (keepLt_of rfl),M9,w9,D9,_,_,_,pp+1,by rw[List.length_append];rfl,m2.trans (m28.trans m9),hI9,by rw[List.length_append];simp only[List.length_singleton];omega,rfl⟩
end
end Go.Proofs.YtiipiciemgdaeaaGreat.Sx
