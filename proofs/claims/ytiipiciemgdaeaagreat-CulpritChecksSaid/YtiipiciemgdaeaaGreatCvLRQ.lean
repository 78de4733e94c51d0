/- The last part of the texts of this claim: its own law. -/
import Derived.Test.YtiipiciemgdaeaaGreatUAP5
namespace Go.Proofs.YtiipiciemgdaeaaGreat.Sx
open Go Go.RowKit
set_option linter.unusedVariables false
set_option linter.unusedSimpArgs false
set_option maxRecDepth 100000
set_option maxHeartbeats 8000000
attribute [local congr] fin_congr finG_congr stepG_congr step1_congr runOps_congr brv_congr obl_congr condK_congr LoopK_congr seqK_congr CutK_congr vc_congr DrawK_congr regK_congr CallK_congr AskK_congr newK_congr retC_congr ret1_congr retK_congr outV_congr closeK_congr genR_congr appR_congr finD_congr finGD_congr stepGD_congr stepD_congr CallK0_congr runD_congr okR_congr CallS_congr vcX_congr
attribute [local congr] Stop_congr
set_option exponentiation.threshold 5000
theorem Fz.via{z:St}{J B:St→Prop}(h:Fz z J)(hB:∀y,J y→B y):Fz z B:=fun c n a w hcx g=>by
 obtain ⟨y,g1,h1⟩:=h c n a w hcx g
 exact ⟨y,g1,hB y h1⟩
section
variable {M:Mem}{K:AV→Hp→Mem→Prop}
def cckL(M:Mem)(u:Value)(t2:Int)(t1:Int)(k p:Nat)(w:SeV):St:={env:=[(10,.ext (.int .i64 (k:Int))),(8,.own 17 0),(7,.own 38 0),(2,.ext (.int .i64 t2)),(1,.ext (.int .i64 t1))],hp:=[(17,37,w.c),(38,25,[.ext u,.ext (.int .i64 (p:Int))])],M:=M,kb:=9,fx:=[]}
def cckS(M:Mem)(u:Value)(p:Nat)(own:Hp)(cs:List AV):St:={env:=[(8,.own 17 0),(7,.own 38 0)],hp:=own++[(17,37,cs),(38,25,[.ext u,.ext (.int .i64 (p:Int))])],M:=M,kb:=9,fx:=[]}
def c9(w:SeV)(x:AV):List AV:=[.ext w.ur,.ext w.up,.ext w.y1,.ext w.y2,.ext w.x1,.ext w.x2,.ext w.d1,.ext w.d2,.ext (.int .i64 w.most),x,.ext w.uf]
def c10(w:SeV)(x:AV):List AV:=[.ext w.ur,.ext w.up,.ext w.y1,.ext w.y2,.ext w.x1,.ext w.x2,.ext w.d1,.ext w.d2,.ext (.int .i64 w.most),.ext w.uq,x]
def cckJ(M0:Mem)(u:Value)(L:List Int)(fl dt:LP)(z:St):Prop:=
 (∃M' D w dd uq bq p,Mem.le M0 M'∧SeR M' w L D fl dt dd uq bq∧z=cckS M' u p [] w.c)∨
 (∃M' D w dd x bq p nn,Mem.le M0 M'∧SeR M' w L D fl dt dd [] bq∧x.length<1000000∧nn=x.length∧z=cckS M' u p [(73,3,cE intV64 x)] (c9 w (.slo 73 0 nn 1)))∨
 (∃M' D w dd uq x p nn,Mem.le M0 M'∧SeR M' w L D fl dt dd uq []∧x.length<1000000∧nn=x.length∧z=cckS M' u p [(87,4,cE Value.bool x)] (c10 w (.slo 87 0 nn 1)))∨
 (∃M' D w dd uq x p nn,Mem.le M0 M'∧SeR M' w L D fl dt dd uq []∧x.length<1000000∧nn=x.length∧z=cckS M' u p [(110,4,cE Value.bool x)] (c10 w (.slo 110 0 nn 1)))
theorem cckJ_fz{M0:Mem}{u:Value}{L:List Int}{fl dt:LP}{z:St}(h:cckJ M0 u L fl dt z):Fz z (fun y=>∃M' D w dd uq bq p,Mem.le M0 M'∧SeR M' w L D fl dt dd uq bq∧y=cckS M' u p [] w.c):=by
 rcases h with ⟨M',D,w,dd,uq,bq,p,hM,hR,rfl⟩|⟨M',D,w,dd,x,bq,p,nn,hM,hR,hx,rfl,rfl⟩|⟨M',D,w,dd,uq,x,p,nn,hM,hR,hx,rfl,rfl⟩|⟨M',D,w,dd,uq,x,p,nn,hM,hR,hx,rfl,rfl⟩
 ·exact Fz.of ⟨M',D,w,dd,uq,bq,p,hM,hR,rfl⟩
 ·refine Fz.cellI (k:=73) (j:=17) (p0:=9) (n:=x.length) (q:=1) (off:=0) (T:=3) (T0:=37) (x.map intV64) [(8,.own 17 0),(7,.own 38 0)] [(38,25,[.ext u,.ext (.int .i64 (p:Int))])] rfl rfl rfl (by rw[List.length_map];omega) (show 9≤73 by decide) (by decide) ⟨rfl,rfl,trivial⟩ (by simp[mentE,AV.ment]) ⟨rfl,trivial⟩ (by simp[mentH,mentL,AV.ment]) (keepLt_of rfl) (fun j hj hj2=>?_) (fun M2 U hM2 hU _=>?_)
  ·exfalso
   have hj:j<9:=hj
   simp only[cckS,lkH,List.cons_append,List.nil_append]at hj2
   rw[if_neg (by omega),if_neg (by omega),if_neg (by omega)]at hj2
   cases hj2
  rw[List.drop_zero,List.take_of_length_le (by rw[List.length_map];omega)]at hU
  have hM2:Mem.le M' M2:=hM2
  have h2:=hR.le hM2
  exact ⟨M2,D,⟨w.ur,w.up,w.y1,w.y2,w.x1,w.x2,w.d1,w.d2,w.most,U,w.uf⟩,dd,x,bq,p,hM.trans hM2,⟨h2.r,h2.p,h2.o,h2.y,h2.x,h2.d,h2.lb,h2.pb,hU,h2.f,hx,h2.fb⟩,rfl⟩
 ·refine Fz.cellI (k:=87) (j:=17) (p0:=10) (n:=x.length) (q:=1) (off:=0) (T:=4) (T0:=37) (x.map Value.bool) [(8,.own 17 0),(7,.own 38 0)] [(38,25,[.ext u,.ext (.int .i64 (p:Int))])] rfl rfl rfl (by rw[List.length_map];omega) (show 9≤87 by decide) (by decide) ⟨rfl,rfl,trivial⟩ (by simp[mentE,AV.ment]) ⟨rfl,trivial⟩ (by simp[mentH,mentL,AV.ment]) (keepLt_of rfl) (fun j hj hj2=>?_) (fun M2 U hM2 hU _=>?_)
  ·exfalso
   have hj:j<9:=hj
   simp only[cckS,lkH,List.cons_append,List.nil_append]at hj2
   rw[if_neg (by omega),if_neg (by omega),if_neg (by omega)]at hj2
   cases hj2
  rw[List.drop_zero,List.take_of_length_le (by rw[List.length_map];omega)]at hU
  have hM2:Mem.le M' M2:=hM2
  have h2:=hR.le hM2
  exact ⟨M2,D,⟨w.ur,w.up,w.y1,w.y2,w.x1,w.x2,w.d1,w.d2,w.most,w.uq,U⟩,dd,uq,x,p,hM.trans hM2,⟨h2.r,h2.p,h2.o,h2.y,h2.x,h2.d,h2.lb,h2.pb,h2.q,hU,h2.qb,hx⟩,rfl⟩
 ·refine Fz.cellI (k:=110) (j:=17) (p0:=10) (n:=x.length) (q:=1) (off:=0) (T:=4) (T0:=37) (x.map Value.bool) [(8,.own 17 0),(7,.own 38 0)] [(38,25,[.ext u,.ext (.int .i64 (p:Int))])] rfl rfl rfl (by rw[List.length_map];omega) (show 9≤110 by decide) (by decide) ⟨rfl,rfl,trivial⟩ (by simp[mentE,AV.ment]) ⟨rfl,trivial⟩ (by simp[mentH,mentL,AV.ment]) (keepLt_of rfl) (fun j hj hj2=>?_) (fun M2 U hM2 hU _=>?_)
  ·exfalso
   have hj:j<9:=hj
   simp only[cckS,lkH,List.cons_append,List.nil_append]at hj2
   rw[if_neg (by omega),if_neg (by omega),if_neg (by omega)]at hj2
   cases hj2
  rw[List.drop_zero,List.take_of_length_le (by rw[List.length_map];omega)]at hU
  have hM2:Mem.le M' M2:=hM2
  have h2:=hR.le hM2
  exact ⟨M2,D,⟨w.ur,w.up,w.y1,w.y2,w.x1,w.x2,w.d1,w.d2,w.most,w.uq,U⟩,dd,uq,x,p,hM.trans hM2,⟨h2.r,h2.p,h2.o,h2.y,h2.x,h2.d,h2.lb,h2.pb,h2.q,hU,h2.qb,hx⟩,rfl⟩
theorem SeR.q0{M:Mem}{w:SeV}{l u:List Int}{P:List FR}{fl dt d:LP}{b:List Bool}(h:SeR M w l P fl dt d u b):SeR M ⟨w.ur,w.up,w.y1,w.y2,w.x1,w.x2,w.d1,w.d2,w.most,.slice none 0 0,w.uf⟩ l P fl dt d [] b:=
 ⟨h.r,h.p,h.o,h.y,h.x,h.d,h.lb,h.pb,isL_nil _ _ _,h.f,by simp,h.fb⟩
theorem SeR.f0{M:Mem}{w:SeV}{l u:List Int}{P:List FR}{fl dt d:LP}{b:List Bool}(h:SeR M w l P fl dt d u b):SeR M ⟨w.ur,w.up,w.y1,w.y2,w.x1,w.x2,w.d1,w.d2,w.most,w.uq,.slice none 0 0⟩ l P fl dt d u []:=
 ⟨h.r,h.p,h.o,h.y,h.x,h.d,h.lb,h.pb,h.q,isL_nil _ _ _,h.qb,by simp⟩
theorem cchecks36_ok(u:Value)(t:List Int)(at_ by_:Int)(hu:IsL M intV64 u t)(hK:∀M',Mem.le M M'→K (.ext (.bool true)) [] M'):CallS Tryz.prog 6 [.ext u,.ext (.int .i64 at_),.ext (.int .i64 by_)] [] M [] K:=by
 refine inlS (cs:=[11,29]) Tryz.mixed Tryz.func6 rfl (by kernel_rfl) 9 rfl rfl ?_
 simp only[Tryz.f6]
 have uo:=hu.one
 have hf:=uo;refine wS ?_;refine yH 19 ?_;refine sF ?_;refine begun38_ok u t 3 4 (by decide) (by decide) (by decide) (by decide) hu (fun w L D N f g dl p M1 hp m1 hv hR hck hL hfg hm1 hm2=>sG ?_);all_goals clear hf
 have m1:Mem.le M M1:=m1
 have oo:=hR.ones
 obtain ⟨most,hmo⟩:∃most:Int,w.most=most:=⟨_,rfl⟩
 have hI:PlyI M1 w L D N f g dl most [] [] (startX L (D.map numF)):=⟨hR,hv.n,hmo,by rw[←hmo];exact playS_begin hck (by omega)⟩
 have hmo2:most≤4∧1≤most:=by omega
 have hu1:=hu.le m1
 refine wG (A3 @SeV.v.eq_1 uo oo) ?_
 refine ⟨fun z=>∃M' w' D' uq bq X pp,Mem.le M1 M'∧PlyI M' w' L D' N f g dl most uq bq X∧pp≤300∧∃kk,z=cckL M' u by_ at_ kk pp w',?_,?_⟩
 ·have hf:=A2 uo oo;refine wS ?_;(first|refine yH 13 ?_|refine yG 13 ?_);refine sF ?_;refine nextI_ok 38 u t p 4 hu1 (by omega) (by omega) (by omega) (fun x hx0 hx1=>sG ?_);all_goals clear hf
  obtain ⟨k0,rfl⟩:=Int.eq_ofNat_of_zero_le hx0
  refine wG (A2 uo oo) ?_
  refine ⟨fun d z=>∃M' w' D' uq bq X pp kk,d=kk∧kk≤4∧Mem.le M1 M'∧PlyI M' w' L D' N f g dl most uq bq X∧pp+2*kk≤200∧z=cckL M' u by_ at_ kk pp w',
   ⟨k0,cckL M1 u by_ at_ k0 (p+1) w,le_sub ⟨rfl,rfl,rfl,rfl,rfl,trivial⟩ ⟨rfl,rfl,trivial⟩ rfl rfl rfl (keepLt_of rfl),⟨M1,w,D,[],[],_,p+1,k0,rfl,by omega,Mem.le.refl _,hI,by omega,rfl⟩⟩,?_⟩
  clear oo hR hck hmo hI hx0 hx1
  rintro d z ⟨M2,w2,D2,uq,bq,X,pp,kk,rfl,hk4,m2,hI,hpp,rfl⟩
  have hR:=hI.r
  have oo:=hR.ones
  cases d with
  | zero=>
   have d1:decide ((0:Int)<((0:Nat):Int))=false:=by decide
   refine wT (A5 @cckL.eq_1 @SeV.c.eq_1 d1 uo oo) ?_
   exact ⟨cckL M2 u by_ at_ 0 pp w2,le_sub ⟨rfl,rfl,rfl,rfl,rfl,trivial⟩ ⟨rfl,rfl,trivial⟩ rfl rfl rfl (keepLt_of rfl),M2,w2,D2,uq,bq,X,pp,m2,hI,by omega,0,rfl⟩
  | succ kk=>
  have d1:decide ((0:Int)<((kk+1:Nat):Int))=true:=by rw[decide_eq_true_eq];omega
  have wk:IntKind.i64.wrap (((kk+1:Nat):Int)-1)=((kk:Nat):Int):=by rw[wrap_id (by omega) (by omega)];omega
  have hwm:=hI.m
  have hpl:playS L D2 (opN f) (opN g) (opN dl) w2.most uq bq=some X:=by rw[hwm];exact hI.p
  obtain ⟨hl1,hl2⟩:=playS_len hI.p
  have hu2:=hu.le (m1.trans m2)
  obtain ⟨nx1,hnx1⟩:∃x,x=(nextX L (setsL L 2) dl w2.most X uq.length).1:=⟨_,rfl⟩
  obtain ⟨nx2,hnx2⟩:∃x,x=(nextX L (setsL L 2) dl w2.most X uq.length).2:=⟨_,rfl⟩
  have v1:(nextX L (setsL L 2) (numL (opN dl)) w2.most X uq.length).1=nx1:=by rw[numL_opN,←hnx1]
  have v2:(nextX L (setsL L 2) (numL (opN dl)) w2.most X uq.length).2=nx2:=by rw[numL_opN,←hnx2]
  (try with_reducible refine Fz.of ?_);have hf:=A5 @cckL.eq_1 @SeV.c.eq_1 d1 uo oo;refine sF ?_;(repeat' ((first|((with_reducible first|refine yB ?_|refine yC ?_);first|refine kG 32 ?_|refine kS 32 (chance_ok 38 u t pp 1 2 hu2 (by omega) (by omega) (by omega) (fun q=>Stop.mk ?_)))|((with_reducible refine isE 44 (by decide) ?_);refine dR ((0,[]) :: (1,[0]) :: (7,[0]) :: (2,[0]) :: (rP 3 4 [] [(8,[]),(9,[])])) (11 :: (rgL 43 7 [])) [] ?_)|refine oB ?_|fail)<;>refine sF ?_<;>try with_reducible exact tT))<;>try clear hf
  by_cases e0:nx2=0
  case neg=>
   have d5:decide (nx2=0)=false:=decide_eq_false e0
   refine Stop.go ?_
   (try with_reducible refine Fz.of ?_);have hf:=A3 @SeV.c.eq_1 uo oo;refine sF ?_;(repeat' ((first|((with_reducible first|refine yN ?_|refine yM ?_);refine kS 23 (creport_ok q hR (fun hp=>absurd (hpl.symm.trans hp) (by simp)) (fun X' hp he M3 m3=>Stop.mk ?_) (fun X' hp he=>absurd (by cases hpl.symm.trans hp;exact he) (show ¬(nextX L (setsL L 2) (numL (opN dl)) w2.most X uq.length).2=0 by rw[v2];exact e0))))|((with_reducible refine isE 44 (by decide) ?_);refine dR ((0,[]) :: (1,[0]) :: (7,[0]) :: (2,[0]) :: (rP 3 4 [] [(8,[]),(9,[])])) (11 :: (rgL 43 7 [])) [] ?_)|refine oB ?_|fail)<;>refine sF ?_<;>try with_reducible exact tT))<;>try clear hf
   have m3:Mem.le M2 M3:=m3
   cases hpl.symm.trans hp
   refine wG (A7 v2 d5 wk @se0V.eq_1 @SeV.c.eq_1 uo oo) ?_
   exact ⟨kk,cckL M3 u by_ at_ kk (pp+1) w2,by omega,le_sub ⟨rfl,rfl,rfl,rfl,rfl,trivial⟩ ⟨rfl,rfl,trivial⟩ rfl rfl rfl (keepLt_of rfl),M3,w2,D2,uq,bq,X,pp+1,kk,rfl,by omega,m2.trans m3,hI.le m3,by omega,rfl⟩
  have hnx:nextX L (setsL L 2) dl most X uq.length=(nx1,0):=by rw[←hwm];exact Prod.ext hnx1.symm (hnx2.symm.trans e0)
  have hlt:=(nextX_set hv.c hnx).2.2
  refine Stop.go ?_
  (try with_reducible refine Fz.of ?_);have hf:=A3 @SeV.c.eq_1 uo oo;refine sF ?_;(repeat' ((first|((with_reducible first|refine yN ?_|refine yM ?_);refine kS 23 (creport_ok q hR (fun hp=>absurd (hpl.symm.trans hp) (by simp)) (fun X' hp he=>absurd (by cases hpl.symm.trans hp;rw[v2];exact e0) he) (fun X' hp he w3 D3 M3 m3 hD3 hm3 hR3=>Stop.mk ?_)))|((with_reducible refine isE 44 (by decide) ?_);refine dR ((0,[]) :: (1,[0]) :: (7,[0]) :: (2,[0]) :: (rP 3 4 [] [(8,[]),(9,[])])) (11 :: (rgL 43 7 [])) [] ?_)|refine oB ?_|fail)<;>refine sF ?_<;>try with_reducible exact tT))<;>try clear hf
  have m3:Mem.le M2 M3:=m3
  cases hpl.symm.trans hp
  rw[v1]at hR3
  have o3:=hR3.ones
  have hI3:=(hI.le m3).snoc hnx hlt hD3 hm3 hR3
  refine wG (A6 wk @SeV.v.eq_1 @SeV.c.eq_1 uo oo o3) ?_
  exact ⟨kk,cckL M3 u by_ at_ kk (pp+1) w3,by omega,le_sub ⟨rfl,rfl,rfl,rfl,rfl,trivial⟩ ⟨rfl,rfl,trivial⟩ rfl rfl rfl (keepLt_of rfl),M3,w3,D3,_,_,_,pp+1,kk,rfl,by omega,m2.trans m3,hI3,by omega,rfl⟩
 clear oo hR hck hmo hI
 rintro z ⟨M2,w2,D2,uq,bq,X,pp,m2,hI,hpp,kk,rfl⟩
 have hR:=hI.r
 have oo:=hR.ones
 obtain ⟨hl1,hl2⟩:=playS_len hI.p
 have hu2:=hu.le (m1.trans m2)
 clear hI
 have nq:=hR.q.len
 have sq:=hR.q.sl
 have nf:=hR.f.len
 have sf:=hR.f.sl
 refine wT (A4 @cckL.eq_1 @SeV.c.eq_1 uo oo) ?_
 refine ⟨cckJ M2 u L (opN f) (opN g),?_,?_⟩
 ·have hf:=A4 @cckL.eq_1 @SeV.c.eq_1 uo oo;refine wS ?_;(first|refine kN 11 (fold_ok _ _ (sG ?_))|refine kM 11 (fold_ok _ _ (sG ?_)));all_goals clear hf
  generalize foldI _ 6=v
  by_cases v0:v=0
  ·have d0:decide (v=0)=true:=decide_eq_true v0
   by_cases hn:0<uq.length
   case neg=>
    have d1:decide ((0:Int)<(uq.length:Int))=false:=by rw[decide_eq_false_iff_not];omega
    refine wG (A6 d0 d1 nq sq uo oo) ?_
    exact ⟨cckS M2 u pp [] w2.c,le_sub ⟨rfl,rfl,trivial⟩ ⟨rfl,rfl,trivial⟩ rfl rfl rfl (keepLt_of rfl),.inl ⟨M2,D2,w2,_,uq,bq,pp,Mem.le.refl _,hR,rfl⟩⟩
   have d1:decide ((0:Int)<(uq.length:Int))=true:=by rw[decide_eq_true_eq];omega
   have rw1:=hR.q.row
   have e1:(uq.map intV64).map AV.ext=cE intV64 uq:=rfl
   have a1:allOne (cE intV64 uq)=True:=eq_true (allOne_cE intV64 (fun _=>rfl) uq)
   have e4:=cE_len intV64 uq
   refine Stop.go ?_
   (try with_reducible refine Fz.of ?_);have hf:=A12 d0 d1 nq sq uo oo rw1 e1 a1 @cE_ment @cE_kill (A2 @hasK_nil @Nat.mul_one);refine sF ?_;(repeat' ((first|((with_reducible first|refine yN ?_|refine yM ?_);refine kS 11 (fold_ok _ _ (Stop.mk ?_)))|((with_reducible refine isE 66 (by decide) ?_);refine dR [(0,[]),(1,[]),(2,[1]),(3,[1]),(5,[1]),(4,[1]),(6,[1]),(7,[]),(8,[])] (rgL 66 7 []) [] ?_)|refine oB ?_|fail)<;>refine sF ?_<;>try with_reducible exact tT))<;>try clear hf
   obtain ⟨h1,h2⟩:=foldI_bd1 by_ (uq.length:Int) (by omega) (by omega)
   generalize foldI by_ (uq.length:Int)=ff at *
   obtain ⟨ii,rfl⟩:=Int.eq_ofNat_of_zero_le h1
   have z3:(ii:Int)<(uq.length:Int):=h2
   refine Stop.go ?_
   (try with_reducible refine Fz.of ?_);have hf:=A12 z3 h1 e4 nq sq uo oo rw1 e1 a1 @cE_ment (A3 @cE_kill @hasK_nil @Nat.mul_one);refine sF ?_;(repeat' ((first|((with_reducible first|refine yA ?_|refine yB ?_|refine yC ?_);first|refine kH 13 ?_|refine kG 13 ?_|refine kS 13 (nextI_ok 38 u t pp 8 hu2 (by omega) (by omega) (by omega) (fun x hx0 hx1=>Stop.mk ?_)))|((with_reducible refine isE 66 (by decide) ?_);refine dR [(0,[]),(1,[]),(2,[1]),(3,[1]),(5,[1]),(4,[1]),(6,[1]),(7,[]),(8,[])] (rgL 66 7 []) [] ?_)|refine oB ?_|fail)<;>refine sF ?_<;>try with_reducible exact tT))<;>try clear hf
   have hset:(cE intV64 uq).set ii (.ext (.int .i64 x))=cE intV64 (uq.set ii x):=cE_set intV64 uq ii x
   refine Stop.go ?_
   (try with_reducible refine Fz.of ?_);have hf:=A12 z3 h1 e4 hset nq sq uo oo rw1 e1 a1 (A4 @cE_ment @cE_kill @hasK_nil @Nat.mul_one);refine sF ?_;(repeat' ((first|((with_reducible refine isE 66 (by decide) ?_);refine dR [(0,[]),(1,[]),(2,[1]),(3,[1]),(5,[1]),(4,[1]),(6,[1]),(7,[]),(8,[])] (rgL 66 7 []) [] ?_)|refine oB ?_|fail)<;>refine sF ?_<;>try with_reducible exact tT))<;>try clear hf
   exact ⟨cckS M2 u (pp+1) [(73,3,cE intV64 (uq.set ii x))] (c9 w2 (.slo 73 0 uq.length 1)),le_sub ⟨rfl,rfl,trivial⟩ ⟨rfl,rfl,rfl,trivial⟩ rfl rfl rfl (keepLt_of rfl),.inr (.inl ⟨M2,D2,_,_,uq.set ii x,bq,pp+1,uq.length,Mem.le.refl _,hR.q0,by rw[List.length_set];omega,by rw[List.length_set],rfl⟩)⟩
  have d0:decide (v=0)=false:=decide_eq_false v0
  by_cases v1:v=1
  ·have d1:decide (v=1)=true:=decide_eq_true v1
   have rw2:=hR.f.row
   have e2:(bq.map Value.bool).map AV.ext=cE Value.bool bq:=rfl
   have a2:allOne (cE Value.bool bq)=True:=eq_true (allOne_cE Value.bool (fun _=>rfl) bq)
   have ap2:cE Value.bool bq++[.ext (.bool true)]=cE Value.bool (bq++[true]):=cE_snoc Value.bool bq true
   have e4:=cE_len Value.bool bq
   refine wG (A12 d0 d1 nf sf uo oo rw2 e2 a2 ap2 e4 (A4 @cE_ment @cE_kill @hasK_nil @Nat.mul_one)) ?_
   exact ⟨cckS M2 u pp [(87,4,cE Value.bool (bq++[true]))] (c10 w2 (.slo 87 0 (bq.length+1) 1)),le_sub ⟨rfl,rfl,trivial⟩ ⟨rfl,rfl,rfl,trivial⟩ rfl rfl rfl (keepLt_of rfl),.inr (.inr (.inl ⟨M2,D2,_,_,uq,bq++[true],pp,bq.length+1,Mem.le.refl _,hR.f0,by rw[List.length_append,List.length_singleton];omega,by rw[List.length_append,List.length_singleton],rfl⟩))⟩
  have d1:decide (v=1)=false:=decide_eq_false v1
  by_cases v2:v=2
  ·have d2:decide (v=2)=true:=decide_eq_true v2
   obtain ⟨y,hy⟩:∃y,IntKind.i64.wrap (IntKind.i64.wrap ((uq.length:Int)+foldI by_ 3)-1)=y:=⟨_,rfl⟩
   refine Stop.go ?_
   (try with_reducible refine Fz.of ?_);have hf:=A8 d0 d1 d2 hy nq sq uo oo;refine sF ?_;(repeat' ((first|((with_reducible first|refine yN ?_|refine yM ?_);refine kS 11 (fold_ok _ _ (Stop.mk ?_)))|((with_reducible refine isE 84 (by decide) ?_);refine dR (rP 0 3 [] ((3,[1]) :: (4,[1]) :: (rP 5 4 [] []))) (rgL 84 5 []) [] ?_)|refine oB ?_|fail)<;>refine sF ?_<;>try with_reducible exact tT))<;>try clear hf
   refine Stop.go ?_
   (try with_reducible refine Fz.of ?_);have hf:=A8 d0 d1 d2 hy nq sq uo oo;refine sF ?_;(repeat' ((first|((with_reducible refine isE 84 (by decide) ?_);refine dR (rP 0 3 [] ((3,[1]) :: (4,[1]) :: (rP 5 4 [] []))) (rgL 84 5 []) [] ?_)|refine oB ?_|fail)<;>refine sF ?_<;>try with_reducible exact tT))<;>try clear hf
   exact ⟨cckS M2 u pp [] (SeV.c ⟨w2.ur,w2.up,w2.y1,w2.y2,w2.x1,w2.x2,w2.d1,w2.d2,y,w2.uq,w2.uf⟩),le_sub ⟨rfl,rfl,trivial⟩ ⟨rfl,rfl,trivial⟩ rfl rfl rfl (keepLt_of rfl),.inl ⟨M2,D2,⟨w2.ur,w2.up,w2.y1,w2.y2,w2.x1,w2.x2,w2.d1,w2.d2,y,w2.uq,w2.uf⟩,_,uq,bq,pp,Mem.le.refl _,⟨hR.r,hR.p,hR.o,hR.y,hR.x,hR.d,hR.lb,hR.pb,hR.q,hR.f,hR.qb,hR.fb⟩,rfl⟩⟩
  have d2:decide (v=2)=false:=decide_eq_false v2
  by_cases v3:v=3
  ·have d3:decide (v=3)=true:=decide_eq_true v3
   by_cases hn:0<bq.length
   case neg=>
    have d4:decide ((0:Int)<(bq.length:Int))=false:=by rw[decide_eq_false_iff_not];omega
    refine wG (A9 d0 d1 d2 d3 d4 nf sf uo oo) ?_
    exact ⟨cckS M2 u pp [] w2.c,le_sub ⟨rfl,rfl,trivial⟩ ⟨rfl,rfl,trivial⟩ rfl rfl rfl (keepLt_of rfl),.inl ⟨M2,D2,w2,_,uq,bq,pp,Mem.le.refl _,hR,rfl⟩⟩
   have d4:decide ((0:Int)<(bq.length:Int))=true:=by rw[decide_eq_true_eq];omega
   have rw2:=hR.f.row
   have e2:(bq.map Value.bool).map AV.ext=cE Value.bool bq:=rfl
   have a2:allOne (cE Value.bool bq)=True:=eq_true (allOne_cE Value.bool (fun _=>rfl) bq)
   have e4:=cE_len Value.bool bq
   have hf:=A12 d0 d1 d2 d3 d4 nf sf uo oo rw2 e2 (A5 a2 @cE_ment @cE_kill @hasK_nil @Nat.mul_one);refine wH ?_;(first|refine kN 11 (fold_ok _ _ (sG ?_))|refine kM 11 (fold_ok _ _ (sG ?_)));all_goals clear hf
   obtain ⟨h1,h2⟩:=foldI_bd1 by_ (bq.length:Int) (by omega) (by omega)
   generalize foldI by_ (bq.length:Int)=ff at *
   obtain ⟨ii,rfl⟩:=Int.eq_ofNat_of_zero_le h1
   have z3:(ii:Int)<(bq.length:Int):=h2
   have hib:ii<bq.length:=by omega
   have hat:=cE_at Value.bool hib
   generalize bq[ii]=bi at *
   have hset:(cE Value.bool bq).set ii (.ext (.bool (!bi)))=cE Value.bool (bq.set ii (!bi)):=cE_set Value.bool bq ii (!bi)
   refine Stop.go ?_
   (try with_reducible refine Fz.of ?_);have hf:=A12 z3 h1 e4 hat hset nf sf uo oo rw2 e2 (A5 a2 @cE_ment @cE_kill @hasK_nil @Nat.mul_one);refine sF ?_;(repeat' ((first|((with_reducible refine isE 106 (by decide) ?_);refine dR ((0,[]) :: (1,[]) :: (rP 2 3 [1] ((5,[1,4]) :: (rP 6 3 [1] [(9,[]),(10,[])])))) (rgL 106 9 []) [] ?_)|refine oB ?_|fail)<;>refine sF ?_<;>try with_reducible exact tT))<;>try clear hf
   exact ⟨cckS M2 u pp [(110,4,cE Value.bool (bq.set ii (!bi)))] (c10 w2 (.slo 110 0 bq.length 1)),le_sub ⟨rfl,rfl,trivial⟩ ⟨rfl,rfl,rfl,trivial⟩ rfl rfl rfl (keepLt_of rfl),.inr (.inr (.inr ⟨M2,D2,_,_,uq,bq.set ii (!bi),pp,bq.length,Mem.le.refl _,hR.f0,by rw[List.length_set];omega,by rw[List.length_set],rfl⟩))⟩
  have d3:decide (v=3)=false:=decide_eq_false v3
  by_cases v4:v=4
  ·have d4:decide (v=4)=true:=decide_eq_true v4
   have hf:=A7 d0 d1 d2 d3 d4 uo oo;refine wH ?_;(first|refine kN 11 (fold_ok _ _ (sG ?_))|refine kM 11 (fold_ok _ _ (sG ?_)));all_goals clear hf
   obtain ⟨h1,h2⟩:=foldI_bd1 by_ 50 (by omega) (by omega)
   generalize foldI by_ 50=ff at *
   obtain ⟨ii,rfl⟩:=Int.eq_ofNat_of_zero_le h1
   have wf:IntKind.i64.wrap (2+(ii:Int))=((2+ii:Nat):Int):=by rw[wrap_id (by omega) (by omega)];omega
   have hf:=A3 wf uo oo;refine wH ?_;refine kN 12 (sml_ok 1 (2+ii) (by omega) (by omega) (by omega) (fun x1 x2 M3 m3 g1 g2 _ _=>sG ?_));all_goals clear hf
   have m3:Mem.le M2 M3:=m3
   have p1:=g1.one
   have p2:=g2.one
   have hF:IsF M3 x1 x2 (ofN (1 / Nat.gcd 1 (2+ii))) (ofN ((2+ii) / Nat.gcd 1 (2+ii))):=isF_ofN g1 g2 ⟨(sm1000 (Nat.le_trans (Nat.div_le_self _ _) (by omega))).len,(sm1000 (Nat.le_trans (Nat.div_le_self _ _) (by omega))).len⟩
   have hR3:=hR.le m3
   refine wG (A5 wf uo oo p1 p2) ?_
   exact ⟨cckS M3 u pp [] (SeV.c ⟨w2.ur,w2.up,w2.y1,w2.y2,w2.x1,w2.x2,x1,x2,w2.most,w2.uq,w2.uf⟩),le_sub ⟨rfl,rfl,trivial⟩ ⟨rfl,rfl,trivial⟩ rfl rfl rfl (keepLt_of rfl),.inl ⟨M3,D2,⟨w2.ur,w2.up,w2.y1,w2.y2,w2.x1,w2.x2,x1,x2,w2.most,w2.uq,w2.uf⟩,(_,_),uq,bq,pp,m3,⟨hR3.r,hR3.p,hR3.o,hR3.y,hR3.x,hF,hR3.lb,hR3.pb,hR3.q,hR3.f,hR3.qb,hR3.fb⟩,rfl⟩⟩
  have d4:decide (v=4)=false:=decide_eq_false v4
  refine wG (A7 d0 d1 d2 d3 d4 uo oo) ?_
  exact ⟨cckS M2 u pp [] w2.c,le_sub ⟨rfl,rfl,trivial⟩ ⟨rfl,rfl,trivial⟩ rfl rfl rfl (keepLt_of rfl),.inl ⟨M2,D2,w2,_,uq,bq,pp,Mem.le.refl _,hR,rfl⟩⟩
 ·intro z hz
  refine Fz.via (cckJ_fz hz) ?_
  clear hz hR oo nq sq nf sf hl1 hl2 hpp hu2
  rintro z ⟨M3,D3,w3,dd,uq3,bq3,pp3,m3,hR,rfl⟩
  have oo:=hR.ones
  have m03:=m1.trans (m2.trans m3)
  have hf:=A4 @cckS.eq_1 @SeV.c.eq_1 uo oo;refine wS ?_;refine kN 34 (rCheck_ok hR (fun M4 m4=>sG ?_));all_goals clear hf
  have m4:Mem.le M3 M4:=m4
  cases hp:playS L D3 (opN f) (opN g) dd w3.most uq3 bq3 with
  | none=>
   have k0:(none:Option (List Nat)).isSome=false:=rfl
   have hf:=A4 k0 @SeV.c.eq_1 uo oo;refine wH ?_;refine kN 21 (cBelief_ok (hR.le m4) (fun _ M5 m5=>sG ?_) (fun X' wr ws ww M5 hp' m5 hB hpx hv5=>absurd (hp.symm.trans hp') (by simp)));all_goals clear hf
   have m5:Mem.le M4 M5:=m5
   have m45:=m4.trans m5
   have hf:=A4 k0 @SeV.c.eq_1 uo oo;refine wH ?_;refine kN 25 (cFind_ok (hR.le m45) (fun _ M6 m6=>sG ?_) (fun X' a1 a2 M6 hp' m6 g3 g4=>absurd (hp.symm.trans hp') (by simp)));all_goals clear hf
   have m6:Mem.le M5 M6:=m6
   have m46:=m45.trans m6
   have hf:=A4 k0 @SeV.c.eq_1 uo oo;refine wH ?_;refine kN 22 (cNext_ok (hR.le m46) (fun _ M7 m7=>sG ?_) (fun X' M7 hp' m7=>absurd (hp.symm.trans hp') (by simp)));all_goals clear hf
   have m7:Mem.le M6 M7:=m7
   have m47:=m46.trans m7
   have hf:=A4 k0 @SeV.c.eq_1 uo oo;refine wH ?_;(first|refine yN ?_|refine yM ?_);refine kS 23 (creport_ok true (hR.le m47) (fun _ M8 m8=>sG ?_) (fun X' hp' _=>absurd (hp.symm.trans hp') (by simp)) (fun X' hp' _=>absurd (hp.symm.trans hp') (by simp)));all_goals clear hf
   have m8:Mem.le M7 M8:=m8
   have m48:=m47.trans m8
   have hf:=A5 k0 @se0V.eq_1 @SeV.c.eq_1 uo oo;refine wH ?_;refine kN 29 (rNext_ok (hR.le m48) (fun _ M9 m9=>sG ?_) (fun X' M9 hp' m9=>absurd (hp.symm.trans hp') (by simp)));all_goals clear hf
   have m9:Mem.le M8 M9:=m9
   have m49:=m48.trans m9
   have hf:=A4 k0 @SeV.c.eq_1 uo oo;refine wH ?_;refine kN 17 (cCheck_ok (hR.le m49) (fun M10 m10=>sG ?_));all_goals clear hf
   have m10:Mem.le M9 M10:=m10
   have k1:(playS L D3 (opN f) (opN g) dd w3.most uq3 bq3).isSome=false:=by rw[hp];rfl
   have k2:(false==false)=true:=rfl
   have hf:=A6 k0 k1 k2 @SeV.c.eq_1 uo oo;refine wH ?_;refine kN 18 (known36_ok (fun M11 m11=>sG ?_));all_goals clear hf
   have hk:=hK M11 (m03.trans (m49.trans (m10.trans m11)))
   refine wG uo ?_
   exact hk
  | some X=>
   have k0:(some X:Option (List Nat)).isSome=true:=rfl
   have hf:=A4 k0 @SeV.c.eq_1 uo oo;refine wH ?_;refine kN 21 (cBelief_ok (hR.le m4) (fun hp'=>absurd (hp.symm.trans hp') (by simp)) (fun X' wr ws ww M5 hp' m5 hB hpx hv5=>sG ?_));all_goals clear hf
   have m5:Mem.le M4 M5:=m5
   have m45:=m4.trans m5
   have p1:=hB.l.one
   have p2:=hB.s.one
   have p3:=hB.q.one
   have hf:=A7 k0 @SeV.c.eq_1 uo oo p1 p2 p3;refine wH ?_;refine kN 25 (cFind_ok (hR.le m45) (fun hp'=>absurd (hp.symm.trans hp') (by simp)) (fun X' a1 a2 M6 hp' m6 g3 g4=>sG ?_));all_goals clear hf
   have m6:Mem.le M5 M6:=m6
   have m46:=m45.trans m6
   have p4:=g3.one
   have p5:=g4.one
   have hf:=A9 k0 @SeV.c.eq_1 uo oo p1 p2 p3 p4 p5;refine wH ?_;refine kN 22 (cNext_ok (hR.le m46) (fun hp'=>absurd (hp.symm.trans hp') (by simp)) (fun X' M7 hp' m7=>sG ?_));all_goals clear hf
   have m7:Mem.le M6 M7:=m7
   have m47:=m46.trans m7
   cases hp.symm.trans hp'
   obtain ⟨nx1,hnx1⟩:∃x,(nextX L (setsL L 2) (numL dd) w3.most X uq3.length).1=x:=⟨_,rfl⟩
   obtain ⟨nx2,hnx2⟩:∃x,(nextX L (setsL L 2) (numL dd) w3.most X uq3.length).2=x:=⟨_,rfl⟩
   rw[hnx1,hnx2]
   have k2:(true==true)=true:=rfl
   have k3:decide (nx2=nx2)=true:=by simp
   have k1:(playS L D3 (opN f) (opN g) dd w3.most uq3 bq3).isSome=true:=by rw[hp];rfl
   by_cases e0:nx2=0
   ·have hf:=A9 k0 @SeV.c.eq_1 uo oo p1 p2 p3 p4 p5;refine wH ?_;(first|refine yN ?_|refine yM ?_);refine kS 23 (creport_ok true (hR.le m47) (fun hp'=>absurd (hp.symm.trans hp') (by simp)) (fun X' hp' he=>absurd (by cases hp.symm.trans hp';rw[hnx2];exact e0) he) (fun X' hp' he w8 D8 M8 m8 hD8 hm8 hR8=>sG ?_));all_goals clear hf
    have m8:Mem.le M7 M8:=m8
    have m48:=m47.trans m8
    have o3:=hR8.ones
    have hf:=A11 k0 @SeV.v.eq_1 @SeV.c.eq_1 uo oo o3 p1 p2 p3 p4 p5;refine wH ?_;refine kN 29 (rNext_ok (hR.le m48) (fun hp'=>absurd (hp.symm.trans hp') (by simp)) (fun X' M9 hp' m9=>sG ?_));all_goals clear hf
    have m9:Mem.le M8 M9:=m9
    have m49:=m48.trans m9
    cases hp.symm.trans hp'
    rw[hnx1,hnx2]
    have hf:=A10 k0 @SeV.c.eq_1 uo oo o3 p1 p2 p3 p4 p5;refine wH ?_;refine kN 17 (cCheck_ok (hR.le m49) (fun M10 m10=>sG ?_));all_goals clear hf
    have m10:Mem.le M9 M10:=m10
    have hf:=A8 k0 k1 k2 k3 e0 @SeV.c.eq_1 uo oo;refine wH ?_;refine kN 18 (known36_ok (fun M11 m11=>sG ?_));all_goals clear hf
    have hk:=hK M11 (m03.trans (m49.trans (m10.trans m11)))
    refine wG uo ?_
    exact hk
   ·have hf:=A9 k0 @SeV.c.eq_1 uo oo p1 p2 p3 p4 p5;refine wH ?_;(first|refine yN ?_|refine yM ?_);refine kS 23 (creport_ok true (hR.le m47) (fun hp'=>absurd (hp.symm.trans hp') (by simp)) (fun X' hp' he M8 m8=>sG ?_) (fun X' hp' he=>absurd (by cases hp.symm.trans hp';exact he) (show ¬(nextX L (setsL L 2) (numL dd) w3.most X uq3.length).2=0 by rw[hnx2];exact e0)));all_goals clear hf
    have m8:Mem.le M7 M8:=m8
    have m48:=m47.trans m8
    cases hp.symm.trans hp'
    rw[hnx2]
    have hf:=A11 k0 @se0V.eq_1 @SeV.v.eq_1 @SeV.c.eq_1 uo oo p1 p2 p3 p4 p5;refine wH ?_;refine kN 29 (rNext_ok (hR.le m48) (fun hp'=>absurd (hp.symm.trans hp') (by simp)) (fun X' M9 hp' m9=>sG ?_));all_goals clear hf
    have m9:Mem.le M8 M9:=m9
    have m49:=m48.trans m9
    cases hp.symm.trans hp'
    rw[hnx1,hnx2]
    have hf:=A9 k0 @SeV.c.eq_1 uo oo p1 p2 p3 p4 p5;refine wH ?_;refine kN 17 (cCheck_ok (hR.le m49) (fun M10 m10=>sG ?_));all_goals clear hf
    have m10:Mem.le M9 M10:=m10
    have hf:=A7 k0 k1 k2 k3 @SeV.c.eq_1 uo oo;refine wH ?_;refine kN 18 (known36_ok (fun M11 m11=>sG ?_));all_goals clear hf
    have hk:=hK M11 (m03.trans (m49.trans (m10.trans m11)))
    refine wG uo ?_
    exact hk
end
end Go.Proofs.YtiipiciemgdaeaaGreat.Sx
