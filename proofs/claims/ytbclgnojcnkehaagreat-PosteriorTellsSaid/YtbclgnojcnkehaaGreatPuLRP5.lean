/- Part 38 of the texts of this claim: a symbolic executor and contracts of functions. -/
import Derived.Test.YtbclgnojcnkehaaGreatPuLRP4
namespace Go.Proofs.YtbclgnojcnkehaaGreat.Sx
open Go Go.RowKit
set_option linter.unusedVariables false
set_option linter.unusedSimpArgs false
set_option maxRecDepth 100000
set_option maxHeartbeats 8000000
attribute [local congr] fin_congr finG_congr stepG_congr step1_congr runOps_congr brv_congr obl_congr condK_congr LoopK_congr seqK_congr CutK_congr vc_congr DrawK_congr regK_congr CallK_congr AskK_congr newK_congr retC_congr ret1_congr retK_congr outV_congr closeK_congr genR_congr appR_congr finD_congr finGD_congr stepGD_congr stepD_congr CallK0_congr runD_congr okR_congr CallS_congr vcX_congr
attribute [local congr] Stop_congr
section
variable {M:Mem}{K:AV→Hp→Mem→Prop}{ur us uw x1 x2 y1 y2:Value}{l s:List Int}{L:List FR}{fl dt:LP}
theorem rfailing_ok(p:Int)(h1:IsL M intV64 ur l)(h2:IsL M intV64 us s)(h3:IsR M 2 FR.c uw L)(h4:okFL M L)(b1:l.length<1000000)(b2:s.length<1000000)(b3:L.length<1000000)
  (hy:IsF M y1 y2 fl.1 fl.2) (hx:IsF M x1 x2 dt.1 dt.2) (hK:FrE M K (failF l s L fl dt p)) :
  CallS Tryz.prog 33 [.ext (.agg #[ur,us,uw]),.ext (.agg #[y1,y2,x1,x2]),.ext (.int .i64 p)] [] M [] K:=by
 refine inlS (cs:=[]) Tryz.mixed Tryz.func33 rfl (by kernel_rfl) 0 rfl rfl ?_
 simp only[Tryz.f33]
 have o1:=h1.one
 have o2:=h2.one
 have o3:=h3.one
 have p1:=hx.n.one
 have p2:=hx.d.one
 have p3:=hy.n.one
 have p4:=hy.d.one
 unfold failF at hK
 have hf:=A7 o1 o2 o3 p1 p2 p3 p4;refine sF ?_;(repeat' ((first|((with_reducible refine yN ?_);refine kS 82 (rchk_ok p h1 h2 h3 h4 b1 b2 b3 hy hx (fun M1 m1=>Stop.mk ?_)))|refine oB ?_|fail)<;>refine sF ?_<;>try with_reducible exact tT))<;>try clear hf
 have m1:Mem.le M M1:=m1
 unfold chkU
 by_cases hc:(chkB l s L&&noiF fl.1 fl.2 dt.1 dt.2)=true
 case neg=>
  rw[if_neg hc]at hK ⊢
  have hk:=FrE.err hK m1
  refine Stop.go ?_
  have hf:=A7 o1 o2 o3 p1 p2 p3 p4;refine sF ?_;(repeat' ((first|refine oB ?_|fail)<;>refine sF ?_<;>try with_reducible exact tT))<;>try clear hf
  exact hk
 rw[if_pos hc]at hK ⊢
 have hcb:=chkB_of (by rw[Bool.and_eq_true]at hc;exact hc.1)
 have hr0:=riskF_few l s L p
 cases hs:setB l p with
 | false=>
  have hr3:riskF l s L p=(3,0,0):=by unfold riskF;rw[hs];rfl
  rw[hr3]at hK
  have hk:=FrE.err (e:=3) hK m1
  rw[if_neg (by decide)]
  refine Stop.go ?_
  have hf:=A7 o1 o2 o3 p1 p2 p3 p4;refine sF ?_;(repeat' ((first|refine oB ?_|fail)<;>refine sF ?_<;>try with_reducible exact tT))<;>try clear hf
  exact hk
 | true=>
 rw[if_pos rfl]
 obtain ⟨q,rfl,hq,_⟩:=setB_nat hcb.cl hs
 obtain ⟨h2',hle⟩:=risk_toN hcb h2
 have hrr:riskF l s L (q:Int)=totF L (toN s) (badC (effN l q)):=by unfold riskF;rw[hs,if_pos rfl,Int.toNat_natCast]
 rw[hrr]at hK hr0
 refine Stop.go ?_
 have hf:=A7 o1 o2 o3 p1 p2 p3 p4;refine sF ?_;(repeat' ((first|((with_reducible refine yN ?_);refine kS 81 (rrisk_ok q hq hcb.cl (h1.le m1) (h2'.le m1) (h3.le m1) (h4.le m1) (by omega) (by rw[hle];exact hcb.cn) hcb.cb (fun w1 w2 M3 m3 g1 g2=>Stop.mk ?_)))|refine oB ?_|fail)<;>refine sF ?_<;>try with_reducible exact tT))<;>try clear hf
 have m3:Mem.le M1 M3:=m3
 have g3:Mem.le M M3:=m1.trans m3
 generalize totF L (toN s) (badC (effN l q))=r at *
 obtain ⟨e,n,d⟩:=r
 have hr:=isF_ofN g1 g2 hr0
 have q1:=g1.one
 have q2:=g2.one
 unfold failR at hK
 by_cases he:e=0
 case neg=>
  have hk:=FrE.err (by have:=hK;rw[if_neg he]at this;exact this) g3
  have d0:decide (e=0)=false:=decide_eq_false he
  refine Stop.go ?_
  have hf:=A10 o1 o2 o3 p1 p2 p3 p4 q1 q2 d0;refine sF ?_;(repeat' ((first|refine oB ?_|fail)<;>refine sF ?_<;>try with_reducible exact tT))<;>try clear hf
  exact hk
 subst he
 have hK:FrE M K (if (mulF (ofN n) (ofN d) dt.1 dt.2).1=0 then (if (mulF (ofN (othF (ofN n) (ofN d)).1) (ofN (othF (ofN n) (ofN d)).2) fl.1 fl.2).1=0 then addF (ofN (mulF (ofN n) (ofN d) dt.1 dt.2).2.1) (ofN (mulF (ofN n) (ofN d) dt.1 dt.2).2.2) (ofN (mulF (ofN (othF (ofN n) (ofN d)).1) (ofN (othF (ofN n) (ofN d)).2) fl.1 fl.2).2.1) (ofN (mulF (ofN (othF (ofN n) (ofN d)).1) (ofN (othF (ofN n) (ofN d)).2) fl.1 fl.2).2.2) else ((mulF (ofN (othF (ofN n) (ofN d)).1) (ofN (othF (ofN n) (ofN d)).2) fl.1 fl.2).1,0,0)) else ((mulF (ofN n) (ofN d) dt.1 dt.2).1,0,0)):=hK
 have hb1:=mulF_len' (ofN n) (ofN d) dt.1 dt.2
 refine Stop.go ?_
 have hf:=A9 o1 o2 o3 p1 p2 p3 p4 q1 q2;refine sF ?_;(repeat' ((first|((with_reducible first|refine yN ?_|refine yM ?_);refine kS 56 (rfmul_ok hr (hx.le g3) (fun v1 v2 M4 m4 a1 a2 _ _=>Stop.mk ?_)))|refine oB ?_|fail)<;>refine sF ?_<;>try with_reducible exact tT))<;>try clear hf
 have m4:Mem.le M3 M4:=m4
 have g4:=g3.trans m4
 generalize mulF (ofN n) (ofN d) dt.1 dt.2=x at *
 obtain ⟨ex,xn,xd⟩:=x
 have hx':=isF_ofN a1 a2 hb1
 have q3:=a1.one
 have q4:=a2.one
 by_cases he:ex=0
 case neg=>
  rw[if_neg he]at hK
  have hk:=FrE.err hK g4
  have d0:decide (ex=0)=false:=decide_eq_false he
  refine Stop.go ?_
  have hf:=A12 o1 o2 o3 p1 p2 p3 p4 q1 q2 q3 q4 d0;refine sF ?_;(repeat' ((first|refine oB ?_|fail)<;>refine sF ?_<;>try with_reducible exact tT))<;>try clear hf
  exact hk
 subst he
 rw[if_pos rfl]at hK
 refine Stop.go ?_
 have hf:=A11 o1 o2 o3 p1 p2 p3 p4 q1 q2 q3 q4;refine sF ?_;(repeat' ((first|((with_reducible refine yM ?_);refine kS 54 (rRest_ok (hr.le m4) (fun v3 v4 M5 m5 c4 _ _=>Stop.mk ?_)))|((with_reducible refine isE 43 (by decide) ?_);refine dR ((0,[]) :: (2,[0]) :: (3,[0]) :: (8,[0,3]) :: (1,[3]) :: (rP 4 4 [] [(9,[]),(10,[])])) (12 :: (rgL 42 8 [])) [] ?_)|refine oB ?_|fail)<;>refine sF ?_<;>try with_reducible exact tT))<;>try clear hf
 have m5:Mem.le M4 M5:=m5
 have q5:=c4.n.one
 have q6:=c4.d.one
 have g5:=g4.trans m5
 generalize othF (ofN n) (ofN d)=o at *
 have hb2:=mulF_len' (ofN o.1) (ofN o.2) fl.1 fl.2
 refine Stop.go ?_
 have hf:=A12 o1 o2 o3 p1 p2 p3 p4 q1 q2 q3 q4 (A2 q5 q6);refine sF ?_;(repeat' ((first|((with_reducible first|refine yN ?_|refine yM ?_);refine kS 56 (rfmul_ok c4 (hy.le g5) (fun v5 v6 M6 m6 a3 a4 _ _=>Stop.mk ?_)))|refine oB ?_|fail)<;>refine sF ?_<;>try with_reducible exact tT))<;>try clear hf
 have m6:Mem.le M5 M6:=m6
 have g6:=g5.trans m6
 generalize mulF (ofN o.1) (ofN o.2) fl.1 fl.2=y at *
 obtain ⟨ey,yn,yd⟩:=y
 have hy':=isF_ofN a3 a4 hb2
 have q7:=a3.one
 have q8:=a4.one
 by_cases he:ey=0
 case neg=>
  rw[if_neg he]at hK
  have hk:=FrE.err hK g6
  have d0:decide (ey=0)=false:=decide_eq_false he
  refine Stop.go ?_
  have hf:=A12 o1 o2 o3 p1 p2 p3 p4 q1 q2 q3 q4 (A3 q7 q8 d0);refine sF ?_;(repeat' ((first|refine oB ?_|fail)<;>refine sF ?_<;>try with_reducible exact tT))<;>try clear hf
  exact hk
 subst he
 rw[if_pos rfl]at hK
 refine Stop.go ?_
 have hf:=A12 o1 o2 o3 p1 p2 p3 p4 q1 q2 q3 q4 (A2 q7 q8);refine sF ?_;(repeat' ((first|((with_reducible refine yN ?_);refine kS 83 (rfadd_ok ((hx'.le m5).le m6) hy' (fun v7 v8 M7 m7 a5 a6 _ _=>Stop.mk ?_)))|refine oB ?_|fail)<;>refine sF ?_<;>try with_reducible exact tT))<;>try clear hf
 have m7:Mem.le M6 M7:=m7
 have q9:=a5.one
 have q10:=a6.one
 have hk:=hK v7 v8 M7 (g6.trans m7) (isF_ofN a5 a6 (addF_len' ..))
 refine Stop.go ?_
 have hf:=A9 o1 o2 o3 p1 p2 p3 p4 q9 q10;refine sF ?_;(repeat' ((first|refine oB ?_|fail)<;>refine sF ?_<;>try with_reducible exact tT))<;>try clear hf
 exact hk
def rgHp(ur us uw:Value):Hp:=[(4,27,[.ext (.slice none 0 0),.ext (.slice none 0 0)]),(2,40,[.ext ur,.ext us,.ext uw])]
def rgSt(M:Mem)(ur us uw:Value)(i k:Nat)(E:List FR):St:={env:=[(7,.ext (.int .i64 (k:Int))),(6,.slo 106 0 E.length 2),(5,.ext (.int .i64 0)),(4,.own 4 0),(2,.own 2 0),(1,.ext (.int .i64 (i:Int)))],hp:=(106,27,frC E) :: rgHp ur us uw,M:=M,kb:=0,fx:=[]}
theorem rguilt_ok(i:Int)(h1:IsL M intV64 ur l)(h2:IsL M intV64 us s)(h3:IsR M 2 FR.c uw L)(h4:okFL M L)(b1:l.length<1000000)(b2:s.length<1000000)(b3:L.length<1000000)
  (hK:FrE M K (guiltF l s L i)):CallS Tryz.prog 35 [.ext (.agg #[ur,us,uw]),.ext (.int .i64 i)] [] M [] K:=by
 refine inlS (cs:=[]) Tryz.mixed Tryz.func35 rfl (by kernel_rfl) 0 rfl rfl ?_
 simp only[Tryz.f35]
 have o1:=h1.one
 have o2:=h2.one
 have o3:=h3.one
 have n1:=h1.len
 have s1:=h1.sl
 unfold guiltF at hK
 have hf:=A3 o1 o2 o3;refine sF ?_;(repeat' ((first|((with_reducible refine yN ?_);refine kS 41 (rcheck35_ok h1 h2 h3 h4 b1 b2 b3 (fun M1 m1=>Stop.mk ?_)))|refine oB ?_|fail)<;>refine sF ?_<;>try with_reducible exact tT))<;>try clear hf
 have m1:Mem.le M M1:=m1
 cases hc:chkB l s L with
 | false=>
  rw[hc]at hK
  have hk:=FrE.err hK m1
  refine Stop.go ?_
  have hf:=A4 o1 o2 o3 hc;refine sF ?_;(repeat' ((first|refine oB ?_|fail)<;>refine sF ?_<;>try with_reducible exact tT))<;>try clear hf
  exact hk
 | true=>
 rw[hc,if_pos rfl]at hK
 have hcb:=chkB_of hc
 have hl8:=chk_len hcb.cl
 by_cases z1:0≤i
 case neg=>
  rw[if_neg (by omega)]at hK
  have hk:=FrE.err hK m1
  have d1:decide (i<0)=true:=by rw[decide_eq_true_eq];omega
  refine Stop.go ?_
  have hf:=A7 o1 o2 o3 n1 s1 hc d1;refine sF ?_;(repeat' ((first|refine oB ?_|fail)<;>refine sF ?_<;>try with_reducible exact tT))<;>try clear hf
  exact hk
 have d1:decide (i<0)=false:=by rw[decide_eq_false_iff_not];omega
 by_cases z2:i<l.length
 case neg=>
  rw[if_neg (by omega)]at hK
  have hk:=FrE.err hK m1
  have d2:decide ((l.length:Int)≤i)=true:=by rw[decide_eq_true_eq];omega
  refine Stop.go ?_
  have hf:=A8 o1 o2 o3 n1 s1 hc d1 d2;refine sF ?_;(repeat' ((first|refine oB ?_|fail)<;>refine sF ?_<;>try with_reducible exact tT))<;>try clear hf
  exact hk
 have d2:decide ((l.length:Int)≤i)=false:=by rw[decide_eq_false_iff_not];omega
 rw[if_pos ⟨z1,z2⟩]at hK
 obtain ⟨i,rfl⟩:=Int.eq_ofNat_of_zero_le z1
 rw[Int.toNat_natCast]at hK
 obtain ⟨h2',hle⟩:=risk_toN hcb h2
 have hl:(toN s).length=L.length:=by rw[hle];exact hcb.cn
 have hS:=hcb.cb
 have b2:(toN s).length<1000000:=by omega
 generalize toN s=S at *
 have n2:=h2'.len
 have s2:=h2'.sl
 have s3:=h3.sl
 have n3:=h3.len
 rw[←hl]at n3
 refine Stop.go ?_
 have hf:=A10 o1 o2 o3 n1 s1 n2 s2 hc d1 d2;refine sF ?_;(repeat' ((first|refine oB ?_|fail)<;>refine sF ?_<;>try with_reducible exact tT))<;>try clear hf
 refine ⟨fun m z=>∃M' E k,m=S.length-k∧k≤S.length∧Mem.le M1 M'∧E=filtL (L.take k) (S.take k) (hasC i)∧z=rgSt M' ur us uw i k E,
  ⟨S.length,rgSt M1 ur us uw i 0 [],(le_nil 6 106 27 2 rfl (.inl (by simp[awayB,mentE,mentH,mentL,AV.ment,hasK]))).trans (le_sub ⟨rfl,rfl,rfl,rfl,rfl,rfl,trivial⟩ ⟨rfl,rfl,rfl,trivial⟩ rfl rfl rfl (keepLt0 _)),⟨M1,[],0,by omega,by omega,Mem.le.refl _,rfl,rfl⟩⟩,?_⟩
 have h2:=h2'.le m1
 have h3:=h3.le m1
 have h4:=h4.le m1
 rintro m z ⟨M2,E,k,rfl,hk,hM,hE,rfl⟩
 have hEl:E.length≤L.length:=by
  rw[hE]
  exact Nat.le_trans (filtL_len _ _ _) (List.length_take_le' ..)
 have hEo:okFL M2 E:=fun x hx=>(h4.le hM) x (List.mem_of_mem_take (filtL_mem _ _ _ x (hE▸hx)))
 by_cases hlt:k<S.length
 case neg=>
  obtain rfl:k=S.length:=by omega
  have d1:decide ((S.length:Int)<(S.length:Int))=false:=by simp
  rw[List.take_length,List.take_of_length_le (by omega)]at hE
  have hT:totF L S (hasC i)=sumF E:=by unfold totF;rw[hE]
  rw[hT]at hK
  have hf:=A11 @rgSt.eq_1 @rgHp.eq_1 d1 o1 o2 o3 n2 s2 @frC_ment @frC_kill @hasK_nil;refine sF ?_;(repeat' ((first|((with_reducible first|refine yA ?_|refine yC ?_);first|refine kH 86 ?_|refine kS 86 (rfsum_bor 106 E.length _ rfl hEo (by omega) (fun w1 w2 M3 m3 g1 g2=>Stop.mk ?_)))|refine oB ?_|fail)<;>refine sF ?_<;>try with_reducible exact tT))<;>try clear hf
  have m3:Mem.le M2 M3:=m3
  have p1:=g1.one
  have p2:=g2.one
  have hk:=hK w1 w2 M3 (m1.trans (hM.trans m3)) (isF_ofN g1 g2 (sumF_len _))
  refine Stop.go ?_
  have hf:=A8 p1 p2 o1 o2 o3 @frC_ment @frC_kill @hasK_nil;refine sF ?_;(repeat' ((first|refine oB ?_|fail)<;>refine sF ?_<;>try with_reducible exact tT))<;>try clear hf
  exact hk
 have d1:decide ((k:Int)<(S.length:Int))=true:=by rw[decide_eq_true_eq];omega
 have q1:(0:Int)≤(k:Int):=by omega
 have q2:(k:Int)<(S.length:Int):=by omega
 have hkL:k<L.length:=by omega
 have f1:=(h2.le hM).idx (P:=Tryz.prog) (T:=3) tk3 tz3 (by omega) hlt
 have hs:=hS _ (List.getElem_mem hlt)
 have wk:IntKind.i64.wrap ((k:Int)+1)=((k+1:Nat):Int):=succ_i (by omega)
 have hu2:=h3.le hM
 have hnn:=hu2.nn hkL
 have hat:=hu2.at (P:=Tryz.prog) (T:=27) (fun _=>rfl) tk27 tz27 hkL
 have hF:=(h4.le hM) _ (List.getElem_mem hkL)
 have hst:=filtL_take (hasC i) L S k hkL hlt
 rw[←hE]at hst
 have hlE:(frC E).length=E.length*2:=frC_len E
 generalize S[k]=sk at *
 generalize L[k]=x at *
 obtain ⟨v1,v2,w1,w2⟩:=x
 have hat:lookM Tryz.prog 27 M2 (elemP uw 2 k)=some (.agg #[v1,v2]):=hat
 have hF:IsF M2 v1 v2 w1 w2:=hF
 have p1:=hF.n.one
 have p2:=hF.d.one
 have hbi:sk.testBit i=hasC i sk:=rfl
 cases hc':hasC i sk with
 | true=>
  rw[hc',if_pos rfl]at hst
  rw[hc']at hbi
  have ap:frC E++[.ext v1,.ext v2]=frC (E++[⟨v1,v2,w1,w2⟩]):=by simp[frC,FR.c]
  have hf:=A12 @rgSt.eq_1 @rgHp.eq_1 @natV.eq_1 d1 q1 q2 f1 wk hnn hat p1 (A12 p2 ap hlE o1 o2 o3 n2 s2 n3 s3 @frC_ment (A3 @frC_kill @hasK_nil hbi));refine sF ?_;(repeat' ((first|((with_reducible refine yN ?_);refine kS 55 (in_ok sk i (by omega) (by omega) ?_))|refine oB ?_|fail)<;>refine sF ?_<;>try with_reducible exact tT))<;>try clear hf
  exact ⟨S.length-(k+1),rgSt M2 ur us uw i (k+1) (E++[⟨v1,v2,w1,w2⟩]),by omega,le_sub ⟨rfl,by rw[List.length_append];rfl,rfl,rfl,rfl,rfl,trivial⟩ ⟨rfl,rfl,rfl,trivial⟩ rfl rfl rfl (keepLt0 _),M2,_,k+1,rfl,by omega,hM,hst.symm,rfl⟩
 | false=>
  rw[hc',if_neg (by decide),List.append_nil]at hst
  rw[hc']at hbi
  have hf:=A12 @rgSt.eq_1 @rgHp.eq_1 @natV.eq_1 d1 q1 q2 f1 wk o1 o2 o3 (A6 n2 s2 @frC_ment @frC_kill @hasK_nil hbi);refine sF ?_;(repeat' ((first|((with_reducible refine yN ?_);refine kS 55 (in_ok sk i (by omega) (by omega) ?_))|refine oB ?_|fail)<;>refine sF ?_<;>try with_reducible exact tT))<;>try clear hf
  exact ⟨S.length-(k+1),rgSt M2 ur us uw i (k+1) E,by omega,le_sub ⟨rfl,rfl,rfl,rfl,rfl,rfl,trivial⟩ ⟨rfl,rfl,rfl,trivial⟩ rfl rfl rfl (keepLt0 _),M2,_,k+1,rfl,by omega,hM,hst.symm,rfl⟩
end
theorem facG_cong(s:Nat):∀(P P':List FR) (j:Nat),P.map prV=P'.map prV→facG s j P=facG s j P'
 | [],[],_,_=>rfl
 | [],_ :: _,_,h=>by simp at h
 | _ :: _,[],_,h=>by simp at h
 | x :: r,y :: q,j,h=>by
  rw[List.map_cons,List.map_cons,List.cons.injEq]at h
  have h1:x.l1=y.l1∧x.l2=y.l2:=Prod.mk.injEq ..▸h.1
  rw[facG,facG,facG_cong s r q (j+1) h.2]
  unfold facE
  rw[h1.1,h1.2]
theorem newB_cong{l:List Int}{m:Int}{P P':List FR}(h:P.map prV=P'.map prV):newB l P m=newB l P' m:=by
 have h1:P.length=P'.length:=by have:=congrArg List.length h;simpa using this
 have h2:newW P=newW P':=funext fun s=>by unfold newW;rw[facG_cong s P P' 0 h]
 unfold newB
 rw[h1,all_cong innF P P' h,h2]
theorem updB_cong{l s:List Int}{fl dt:LP}{pool:Int}{failed:Bool}{L L':List FR}(h:L.map prV=L'.map prV):updB l s L fl dt pool failed=updB l s L' fl dt pool failed:=by
 have h1:L.length=L'.length:=by have:=congrArg List.length h;simpa using this
 unfold updB chkB oneS
 rw[h1,all_cong posF L L' h,sumF_cong h,updL_cong L L' _ h]
theorem bestI_cong:∀(L L':List FR),L.map prV=L'.map prV→∀k,bestI L k=bestI L' k:=fun L L' h=>by
 have hg:∀i,(L.getD i zFR).l1=(L'.getD i zFR).l1∧(L.getD i zFR).l2=(L'.getD i zFR).l2:=fun i=>by
  have e:=congrArg (fun X=>X[i]?) h
  simp only[List.getElem?_map]at e
  rw[List.getD_eq_getElem?_getD,List.getD_eq_getElem?_getD]
  cases h1:L[i]? with
  | none=>
   cases h2:L'[i]? with
   | none=>exact ⟨rfl,rfl⟩
   | some y=>rw[h1,h2]at e;cases e
  | some x=>
   cases h2:L'[i]? with
   | none=>rw[h1,h2]at e;cases e
   | some y=>
    rw[h1,h2]at e
    have e:=Option.some.inj e
    exact (Prod.mk.injEq ..▸e:x.l1=y.l1∧x.l2=y.l2)
 intro k
 induction k with
 | zero=>rfl
 | succ k ih=>rw[bestI,bestI,ih,(hg k).1,(hg k).2,(hg (bestI L' k)).1,(hg (bestI L' k)).2]
def B1:BR:=⟨0,[-1,-1],[1,2],[(1,2),(1,2)]⟩
def B2:BR:=⟨0,[-1,-1],[1,2],[(3,4),(1,4)]⟩
theorem known1:newB [-1,-1] [qFR (1,2),qFR (1,2)] 1=B1:=by kernel_rfl
theorem known2:updB [-1,-1] [1,2] [qFR (1,2),qFR (1,2)] (opN (1,4)) (opN (3,4)) 1 true=B2:=by kernel_rfl
theorem known3:chkB [-1,-1] [1,2] [qFR (3,4),qFR (1,4)]=true:=by kernel_rfl
theorem known4:bestI [qFR (3,4),qFR (1,4)] 2=0:=by kernel_rfl
theorem FrzF.rng{K:AV→Hp→Mem→Prop}{H H2:Hp}{M':Mem}{k n:Nat}{T:TypeId}(cs:List Value)(h1:lkH H k=none)(h2:cs.length=n)(h3:hasK k (mentH H2)=false)(h4:lkH H2 k=none)(h:∀u M'',Mem.le M' M''→SlM M'' 1 u n cs→FreshS M' u→K (.ext (rngV u)) H2 M''):FrzF K H (.ag false [.slo k 0 n 1]) ((k,T,cs.map .ext) :: H2) M':=
 .inr ⟨some false,[],[],k,n,1,T,cs,H2,rfl,rfl,h4,h1,by omega,by simpa [mentL] using h3,h⟩
theorem chkB_cong{l s:List Int}{L L':List FR}(h:L.map prV=L'.map prV):chkB l s L=chkB l s L':=by
 have h1:L.length=L'.length:=by have:=congrArg List.length h;simpa using this
 unfold chkB oneS
 rw[h1,all_cong posF L L' h,sumF_cong h]
theorem okH:OkN (1,2):=⟨by decide,by decide,by decide,by decide⟩
section
variable {M:Mem}{K:AV→Hp→Mem→Prop}
theorem plain_frz(n:Nat)(hn:n≤100)(hK:∀u M',Mem.le M M'→IsL M' intV64 u (List.replicate n (-1))→FreshS M u→K (.ext (rngV u)) [] M'):CallS Tryz.prog 42 [.ext (.int .i64 (n:Int))] [] M [] K:=by
 refine CallS.frzF (plain_own n hn ?_)
 refine FrzF.rng ((List.replicate n (-1)).map intV64) rfl (by simp) rfl rfl (fun u M'' hM hs hf=>hK u M'' hM ?_ hf)
 unfold IsL
 rw[List.length_replicate];exact hs
theorem sml2_ok(n d:Nat)(hn:0<n)(hd:0<d)(hd2:d≤1000)(hn2:n≤1000)(hg:Nat.gcd n d=1)(hK:∀w1 w2 M',Mem.le M M'→IsF M' w1 w2 (ofN n) (ofN d)→K (.ext (.agg #[w1,w2])) [] M'):CallS Tryz.prog 13 [.ext (.int .i64 (n:Int)),.ext (.int .i64 (d:Int))] [] M [] K:=
 sml_ok n d (by omega) (by omega) (by omega) fun w1 w2 M' a1 a2 a3 _ _=>hK w1 w2 M' a1 (by
  rw[hg,Nat.div_one]at a2 a3
  exact isF_ofN a2 a3 ⟨(sm1000 (by omega)).len,(sm1000 (by omega)).len⟩)
theorem known35_ok(hK:∀M',Mem.le M M'→K (.ext (.bool true)) [] M'):CallS Tryz.prog 10 [] [] M [] K:=by
 refine inlS (cs:=[]) Tryz.mixed Tryz.func10 rfl (by kernel_rfl) 0 rfl rfl ?_
 simp only[Tryz.f10]
 refine sU ?_;(repeat' ((first|((with_reducible first|refine yN ?_|refine yM ?_);refine kS 13 (sml2_ok 1 2 (by decide) (by decide) (by decide) (by decide) (by decide) (fun v1 v2 M1 m1 f1=>Stop.mk ?_)))|((with_reducible refine isE 11 (by decide) ?_);refine dR ((1,[]) :: (2,[1]) :: (3,[]) :: (8,[1,2]) :: (0,[1,2]) :: (rP 4 4 [] [(9,[]),(10,[])])) (2 :: (rgL 10 8 [])) [] ?_)|((with_reducible refine isE 19 (by decide) ?_);refine dR ((0,[]) :: (8,[0]) :: (rP 1 3 [0] (rP 4 4 [] [(9,[]),(10,[])]))) (4 :: (rgL 18 8 [])) [] ?_)|((with_reducible refine isE 32 (by decide) ?_);refine dR (rP 0 21 [] ((21,[18,20]) :: (rP 22 8 [] ((30,[29]) :: (rP 31 3 [] []))))) (rgL 49 5 [61,62]) [] ?_)|refine oB ?_|fail)<;>refine sU ?_<;>try with_reducible exact tT))
 have m1:Mem.le M M1:=m1
 have p1:=f1.n.one
 have p2:=f1.d.one
 refine Stop.go ?_
 have hf:=A2 p1 p2;refine sF ?_;(repeat' ((first|((with_reducible refine yM ?_);refine kS 42 (plain_frz 2 (by decide) (fun u M2 m2 a2 _=>Stop.mk ?_)))|((with_reducible refine isE 11 (by decide) ?_);refine dR ((1,[]) :: (2,[1]) :: (3,[]) :: (8,[1,2]) :: (0,[1,2]) :: (rP 4 4 [] [(9,[]),(10,[])])) (2 :: (rgL 10 8 [])) [] ?_)|((with_reducible refine isE 19 (by decide) ?_);refine dR ((0,[]) :: (8,[0]) :: (rP 1 3 [0] (rP 4 4 [] [(9,[]),(10,[])]))) (4 :: (rgL 18 8 [])) [] ?_)|((with_reducible refine isE 32 (by decide) ?_);refine dR (rP 0 21 [] ((21,[18,20]) :: (rP 22 8 [] ((30,[29]) :: (rP 31 3 [] []))))) (rgL 49 5 [61,62]) [] ?_)|refine oB ?_|fail)<;>refine sF ?_<;>try with_reducible exact tT))<;>try clear hf
 have m2:Mem.le M1 M2:=m2
 have a2:IsL M2 intV64 u [-1,-1]:=a2
 have p3:=a2.one
 have f2:=f1.le m2
 have hok:okFL M2 [⟨v1,v2,ofN 1,ofN 2⟩,⟨v1,v2,ofN 1,ofN 2⟩]:=fun x hx=>by
  rcases List.mem_cons.1 hx with h|hx
  ·rw[h];exact f2
  ·rw[List.mem_singleton.1 hx];exact f2
 have hq:newB [-1,-1] [⟨v1,v2,ofN 1,ofN 2⟩,⟨v1,v2,ofN 1,ofN 2⟩] 1=B1:=(newB_cong (P':=[qFR (1,2),qFR (1,2)]) rfl).trans known1
 have hpr:([⟨v1,v2,ofN 1,ofN 2⟩,⟨v1,v2,ofN 1,ofN 2⟩]:List FR).all (fun x=>innF x.l1 x.l2)=true→([⟨v1,v2,ofN 1,ofN 2⟩,⟨v1,v2,ofN 1,ofN 2⟩]:List FR).length≤8→∀s,(prodV 1 1 (facG s 0 [⟨v1,v2,ofN 1,ofN 2⟩,⟨v1,v2,ofN 1,ofN 2⟩])).1=0:=fun _ _ s=>(newW_red (N:=[(1,2),(1,2)]) rfl (fun p hp=>by
  rcases List.mem_cons.1 hp with h|hp
  ·rw[h];exact okH
  ·rw[List.mem_singleton.1 hp];exact okH) (by decide) s).1
 refine Stop.go ?_
 have hf:=A4 p1 p2 p3 @rngV.eq_1;refine sF ?_;(repeat' ((first|((with_reducible first|refine yB ?_|refine yC ?_);first|refine kG 15 ?_|refine kS 15 (pnew_bor 14 2 _ 1 rfl a2 hok (by decide) (show 2<1000000 by decide) hpr (hq▸(fun wr ws ww M3 m3 g1 g2 g3=>Stop.mk ?_))))|refine oB ?_|fail)<;>refine sF ?_<;>try with_reducible exact tT))<;>try clear hf
 have m3:Mem.le M2 M3:=m3
 have g1:IsL M3 intV64 wr [-1,-1]:=g1
 have g2:IsL M3 intV64 ws [1,2]:=IsL.nat g2
 have g3:FQ M3 ww [(1,2),(1,2)]:=g3
 have c1:=g1.one
 have c2:=g2.one
 have c3:ww.oneCell'=true:=by obtain ⟨_,h,_,_⟩:=g3;exact h.one
 refine Stop.go ?_
 have hf:=A10 @B1.eq_1 @B2.eq_1 @frC_ment @frC_kill @hasK_nil p1 p2 c1 c2 c3;refine sF ?_;(repeat' ((first|((with_reducible first|refine yN ?_|refine yM ?_);refine kS 13 (sml2_ok 1 4 (by decide) (by decide) (by decide) (by decide) (by decide) (fun x1 x2 M4 m4 f4=>Stop.mk ?_)))|((with_reducible refine isE 11 (by decide) ?_);refine dR ((1,[]) :: (2,[1]) :: (3,[]) :: (8,[1,2]) :: (0,[1,2]) :: (rP 4 4 [] [(9,[]),(10,[])])) (2 :: (rgL 10 8 [])) [] ?_)|((with_reducible refine isE 19 (by decide) ?_);refine dR ((0,[]) :: (8,[0]) :: (rP 1 3 [0] (rP 4 4 [] [(9,[]),(10,[])]))) (4 :: (rgL 18 8 [])) [] ?_)|((with_reducible refine isE 32 (by decide) ?_);refine dR (rP 0 21 [] ((21,[18,20]) :: (rP 22 8 [] ((30,[29]) :: (rP 31 3 [] []))))) (rgL 49 5 [61,62]) [] ?_)|refine oB ?_|fail)<;>refine sF ?_<;>try with_reducible exact tT))<;>try clear hf
 have m4:Mem.le M3 M4:=m4
 have p4:=f4.n.one
 have p5:=f4.d.one
 refine Stop.go ?_
 have hf:=A12 @B1.eq_1 @B2.eq_1 @frC_ment @frC_kill @hasK_nil p1 p2 p4 p5 c1 c2 c3;refine sF ?_;(repeat' ((first|((with_reducible first|refine yN ?_|refine yM ?_);refine kS 13 (sml2_ok 3 4 (by decide) (by decide) (by decide) (by decide) (by decide) (fun y1 y2 M5 m5 f5=>Stop.mk ?_)))|refine oB ?_|fail)<;>refine sF ?_<;>try with_reducible exact tT))<;>try clear hf
 have m5:Mem.le M4 M5:=m5
 have p6:=f5.n.one
 have p7:=f5.d.one
 obtain ⟨L,l1,l2,l3⟩:=g3
 have hlL:L.length=2:=by have:=congrArg List.length l3;simpa using this
 have hLq:L.map prV=([qFR (1,2),qFR (1,2)]:List FR).map prV:=l3
 have hu:updB [-1,-1] [1,2] L (opN (1,4)) (opN (3,4)) 1 true=B2:=(updB_cong hLq).trans known2
 have f45:=f4.le m5
 have m45:=m4.trans m5
 have g15:=g1.le m45
 have g25:=g2.le m45
 have l15:=l1.le m45
 have l25:=l2.le m45
 refine Stop.go ?_
 have hf:=A12 @B1.eq_1 @B2.eq_1 @frC_ment @frC_kill @hasK_nil p1 p2 p4 p5 p6 p7 (A3 c1 c2 c3);refine sF ?_;(repeat' ((first|((with_reducible refine yM ?_);refine kS 21 (update_ok (fl:=opN (1,4)) (dt:=opN (3,4)) 1 true g15 g25 l15 l25 (by decide) (by decide) (by omega) f45 f5 (hu▸(fun ar at_ aw M6 m6 k1 k2 k3=>Stop.mk ?_))))|refine oB ?_|fail)<;>refine sF ?_<;>try with_reducible exact tT))<;>try clear hf
 have m6:Mem.le M5 M6:=m6
 have k1:IsL M6 intV64 ar [-1,-1]:=k1
 have k2:IsL M6 intV64 at_ [1,2]:=IsL.nat k2
 have k3:FQ M6 aw [(3,4),(1,4)]:=k3
 have c4:=k1.one
 have c5:=k2.one
 have c6:aw.oneCell'=true:=by obtain ⟨_,h,_,_⟩:=k3;exact h.one
 obtain ⟨L2,q1,q2,q3⟩:=k3
 have hl2:L2.length=2:=by have:=congrArg List.length q3;simpa using this
 have hLq2:L2.map prV=([qFR (3,4),qFR (1,4)]:List FR).map prV:=q3
 have hc2:chkB [-1,-1] [1,2] L2=true:=(chkB_cong hLq2).trans known3
 have hbi:bestI L2 2=0:=(bestI_cong L2 _ hLq2 2).trans known4
 have hg0:(L2.getD 0 zFR).l1=ofN 3∧(L2.getD 0 zFR).l2=ofN 4:=by
  rcases L2 with _|⟨X,r⟩
  ·cases hl2
  ·rw[List.map_cons,List.map_cons,List.cons.injEq]at hLq2
   exact (Prod.mk.injEq ..▸hLq2.1:X.l1=ofN 3∧X.l2=ofN 4)
 refine Stop.go ?_
 have hf:=A12 @B1.eq_1 @B2.eq_1 @frC_ment @frC_kill @hasK_nil p1 p2 c1 c2 c3 c4 (A2 c5 c6);refine sF ?_;(repeat' ((first|((with_reducible refine yN ?_);refine kS 36 (best_ok k1 k2 q1 q2 (by decide) (by decide) (by omega) hc2 (by decide) (by rw[hl2];rfl) (fun b1 b2 M7 m7 f7=>Stop.mk ?_)))|refine oB ?_|fail)<;>refine sF ?_<;>try with_reducible exact tT))<;>try clear hf
 have m7:Mem.le M6 M7:=m7
 have f7:IsF M7 b1 b2 (ofN 3) (ofN 4):=by
  have e:bestI L2 ([1,2]:List Int).length=0:=hbi
  rw[e,hg0.1,hg0.2]at f7
  exact f7
 have p8:=f7.n.one
 have p9:=f7.d.one
 have hs:([1,2]:List Int).getD (bestI L2 2) 0=1:=by rw[hbi];rfl
 have m37:Mem.le M3 M7:=m45.trans (m6.trans m7)
 have l17:=l1.le m37
 have l27:=l2.le m37
 have n7:=l17.len
 have s7:=l17.sl
 rw[hlL]at n7
 have k0:0<L.length:=by omega
 have nn:=l17.nn k0
 have at0:=l17.at (P:=Tryz.prog) (T:=27) (fun _=>rfl) tk27 tz27 k0
 have fz:=l27 _ (List.getElem_mem k0)
 have ez:L[0].l1=ofN 1∧L[0].l2=ofN 2:=by
  rcases L with _|⟨X,r⟩
  ·cases hlL
  ·rw[List.map_cons,List.map_cons,List.cons.injEq]at hLq
   exact (Prod.mk.injEq ..▸hLq.1:X.l1=ofN 1∧X.l2=ofN 2)
 rw[ez.1,ez.2]at fz
 generalize L[0]=X at *
 obtain ⟨z1,z2,w1,w2⟩:=X
 have at0:lookM Tryz.prog 27 M7 (elemP ww 2 0)=some (.agg #[z1,z2]):=at0
 have fz:IsF M7 z1 z2 (ofN 1) (ofN 2):=fz
 have r1:=fz.n.one
 have r2:=fz.d.one
 have f17:=(f2.le m3).le m37
 have ln1:(ofN 1).length<1000000000:=by have:=ofN1_len;omega
 have ln2:(ofN 2).length<1000000000:=by have:=(sm1000 (n:=2) (by omega)).len;omega
 have ln3:(ofN 3).length<1000000000:=by have:=(sm1000 (n:=3) (by omega)).len;omega
 have ln4:(ofN 4).length<1000000000:=by have:=(sm1000 (n:=4) (by omega)).len;omega
 have mM7:Mem.le M M7:=m1.trans (m2.trans (m3.trans m37))
 refine Stop.go ?_
 have hf:=A12 @B1.eq_1 @B2.eq_1 @frC_ment @frC_kill @hasK_nil hs p1 p2 p8 p9 c1 (A11 c2 c3 c4 c5 c6 n7 s7 nn at0 r1 r2);refine sF ?_;(repeat' ((first|((with_reducible refine yM ?_);refine kS 26 (sameFrac_ok fz.n fz.d f17.n f17.d ln1 ln2 (Stop.mk ?_)))|((with_reducible refine isE 11 (by decide) ?_);refine dR ((1,[]) :: (2,[1]) :: (3,[]) :: (8,[1,2]) :: (0,[1,2]) :: (rP 4 4 [] [(9,[]),(10,[])])) (2 :: (rgL 10 8 [])) [] ?_)|((with_reducible refine isE 19 (by decide) ?_);refine dR ((0,[]) :: (8,[0]) :: (rP 1 3 [0] (rP 4 4 [] [(9,[]),(10,[])]))) (4 :: (rgL 18 8 [])) [] ?_)|((with_reducible refine isE 32 (by decide) ?_);refine dR (rP 0 21 [] ((21,[18,20]) :: (rP 22 8 [] ((30,[29]) :: (rP 31 3 [] []))))) (rgL 49 5 [61,62]) [] ?_)|refine oB ?_|fail)<;>refine sF ?_<;>try with_reducible exact tT))<;>try clear hf
 refine Stop.go ?_
 have hf:=A12 @B1.eq_1 @B2.eq_1 @frC_ment @frC_kill @hasK_nil hs p1 p2 p8 p9 c1 (A11 c2 c3 c4 c5 c6 n7 s7 nn at0 r1 r2);refine sF ?_;(repeat' ((first|((with_reducible first|refine yN ?_|refine yM ?_);refine kS 13 (sml2_ok 3 4 (by decide) (by decide) (by decide) (by decide) (by decide) (fun e1 e2 M8 m8 f8=>Stop.mk ?_)))|refine oB ?_|fail)<;>refine sF ?_<;>try with_reducible exact tT))<;>try clear hf
 have m8:Mem.le M7 M8:=m8
 have r3:=f8.n.one
 have r4:=f8.d.one
 have f78:=f7.le m8
 have hk:=hK M8 (mM7.trans m8)
 refine Stop.go ?_
 have hf:=A7 @frC_ment @frC_kill @hasK_nil p8 p9 r3 r4;refine sF ?_;(repeat' ((first|((with_reducible refine yM ?_);refine kS 26 (sameFrac_ok f78.n f78.d f8.n f8.d ln3 ln4 (Stop.mk ?_)))|refine oB ?_|fail)<;>refine sF ?_<;>try with_reducible exact tT))<;>try clear hf
 refine Stop.go ?_
 have hf:=A7 @frC_ment @frC_kill @hasK_nil p8 p9 r3 r4;refine sF ?_;(repeat' ((first|refine oB ?_|fail)<;>refine sF ?_<;>try with_reducible exact tT))<;>try clear hf
 exact hk
end
set_option exponentiation.threshold 5000
section
variable {M:Mem}{K:AV→Hp→Mem→Prop}
def tlSt(M:Mem)(wr ws ww y1 y2 x1 x2:Value)(a b c d:Int)(j:Nat):St:={env:=[(73,.ext (.int .i64 (j:Int))),(72,.ext (.int .i64 2)),(71,.slo 71 0 2 2),(10,.own 10 0),(8,.own 8 0),(6,.ext (.bool false))],hp:=[(71,64,[.ext (.int .i64 a),.ext (.int .i64 b),.ext (.int .i64 c),.ext (.int .i64 d)]),(10,51,[.ext y1,.ext y2,.ext x1,.ext x2]),(8,40,[.ext wr,.ext ws,.ext ww])],M:=M,kb:=0,fx:=[]}
theorem ptells_ok(u:Value)(t:List Int)(pool commit:Int)(hu:IsL M intV64 u t)(hK:∀M',Mem.le M M'→K (.ext (.bool true)) [] M'):CallS Tryz.prog 8 [.ext u,.ext (.int .i64 pool),.ext (.int .i64 commit)] [] M [] K:=by
 refine inlS (cs:=[8]) Tryz.mixed Tryz.func8 rfl (by kernel_rfl) 0 rfl rfl ?_
 simp only[Tryz.f8]
 have o1:=hu.one
 (try with_reducible refine Fz.of ?_);have hf:=o1;refine sF ?_;(repeat' ((first|((with_reducible first|refine yA ?_|refine yC ?_);first|refine kH 19 ?_|refine kS 19 (lived38_ok u t 5 4 (by decide) (by decide) (by decide) (by decide) hu (fun l s q0 wr ws ww M1 p0 hp m1 hB hX=>Stop.mk ?_)))|refine oB ?_|fail)<;>refine sF ?_<;>try with_reducible exact tT))<;>try clear hf
 have m1:Mem.le M M1:=m1
 have c1:=hB.l.one
 have c2:=hB.s.one
 have c3:=hB.q.one
 have hlen:=hX.len
 have hcl:=hX.cl
 have hst:=hX.st
 obtain ⟨X,rfl,hP⟩:=hX.px
 have hu1:=hu.le m1
 refine Stop.go ?_
 (try with_reducible refine Fz.of ?_);have hf:=A4 o1 c1 c2 c3;refine sF ?_;(repeat' ((first|((with_reducible first|refine yA ?_|refine yC ?_);first|refine kH 20 ?_|refine kS 20 (model38_ok u t p0 hu1 (by omega) (fun f g y1 y2 x1 x2 p2 M2 m2 k1 k2 k3 k4 k5 k6=>Stop.mk ?_)))|refine oB ?_|fail)<;>refine sF ?_<;>try with_reducible exact tT))<;>try clear hf
 have m2:Mem.le M1 M2:=m2
 have e1:=k1.n.one
 have e2:=k1.d.one
 have e3:=k2.n.one
 have e4:=k2.d.one
 have hB2:=hB.le m2
 have n1:=hB2.l.len
 have s1:=hB2.l.sl
 refine Stop.go ?_
 (try with_reducible refine Fz.of ?_);have hf:=A8 o1 c1 c2 c3 e1 e2 e3 e4;refine sF ?_;(repeat' ((first|refine oB ?_|fail)<;>refine sF ?_<;>try with_reducible exact tT))<;>try clear hf
 refine ⟨fun z=>∃(f g:Nat×Nat) (y1 y2 x1 x2:Value),IsF M2 y1 y2 (ofN f.1) (ofN f.2)∧IsF M2 x1 x2 (ofN g.1) (ofN g.2)∧z = {env:=[(10,.own 10 0),(8,.own 8 0),(2,.ext (.int .i64 commit)),(1,.ext (.int .i64 pool)),(6,.ext (.bool false))],hp:=[(10,51,[.ext y1,.ext y2,.ext x1,.ext x2]),(8,40,[.ext wr,.ext ws,.ext ww])],M:=M2,kb:=0,fx:=[]},?_,?_⟩
 ·(try with_reducible refine Fz.of ?_);have hf:=A8 o1 c1 c2 c3 e1 e2 e3 e4;refine sF ?_;(repeat' ((first|((with_reducible first|refine yA ?_|refine yC ?_);first|refine kH 30 ?_|refine kS 30 (chance_ok 38 u t p2 1 12 (hu1.le m2) (by omega) (by omega) (by omega) (fun sw=>Stop.mk ?_)))|refine oB ?_|fail)<;>refine sF ?_<;>try with_reducible exact tT))<;>try clear hf
  cases sw with
  | true=>
   refine Stop.go ?_
   (try with_reducible refine Fz.of ?_);have hf:=A8 o1 c1 c2 c3 e1 e2 e3 e4;refine sF ?_;(repeat' ((first|refine oB ?_|fail)<;>refine sF ?_<;>try with_reducible exact tT))<;>try clear hf
   exact ⟨{env:=[(10,.own 10 0),(8,.own 8 0),(2,.ext (.int .i64 commit)),(1,.ext (.int .i64 pool)),(6,.ext (.bool false))],hp:=[(10,51,[.ext x1,.ext x2,.ext y1,.ext y2]),(8,40,[.ext wr,.ext ws,.ext ww])],M:=M2,kb:=0,fx:=[]},le_sub ⟨rfl,rfl,rfl,rfl,rfl,trivial⟩ ⟨rfl,rfl,trivial⟩ rfl rfl rfl (keepLt0 _),g,f,x1,x2,y1,y2,k2,k1,rfl⟩
  | false=>
   refine Stop.go ?_
   (try with_reducible refine Fz.of ?_);have hf:=A8 o1 c1 c2 c3 e1 e2 e3 e4;refine sF ?_;(repeat' ((first|refine oB ?_|fail)<;>refine sF ?_<;>try with_reducible exact tT))<;>try clear hf
   exact ⟨{env:=[(10,.own 10 0),(8,.own 8 0),(2,.ext (.int .i64 commit)),(1,.ext (.int .i64 pool)),(6,.ext (.bool false))],hp:=[(10,51,[.ext y1,.ext y2,.ext x1,.ext x2]),(8,40,[.ext wr,.ext ws,.ext ww])],M:=M2,kb:=0,fx:=[]},le_sub ⟨rfl,rfl,rfl,rfl,rfl,trivial⟩ ⟨rfl,rfl,trivial⟩ rfl rfl rfl (keepLt0 _),f,g,y1,y2,x1,x2,k1,k2,rfl⟩
 clear k1 k2 k3 k4 k5 e1 e2 e3 e4
 rintro z ⟨f,g,y1,y2,x1,x2,k1,k2,rfl⟩
 have e1:=k1.n.one
 have e2:=k1.d.one
 have e3:=k2.n.one
 have e4:=k2.d.one
 have sh:=shl_one (i:=l.length) (by omega)
 (try with_reducible refine Fz.of ?_);have hf:=A10 c1 c2 c3 e1 e2 e3 e4 n1 s1 sh;refine sF ?_;(repeat' ((first|((with_reducible refine yN ?_);refine kS 12 (fold_ok _ _ ?_))|refine oB ?_|fail)<;>refine sF ?_<;>try with_reducible exact tT))<;>try clear hf
 generalize foldI pool ((2^l.length:Nat):Int)=pool2 at *
 generalize foldI commit (l.length:Int)=commit2 at *
 refine ⟨fun m z=>∃M' j,m=2-j∧j≤2∧Mem.le M2 M'∧z=tlSt M' wr ws ww y1 y2 x1 x2 pool commit pool2 commit2 j,
  ⟨2,tlSt M2 wr ws ww y1 y2 x1 x2 pool commit pool2 commit2 0,le_sub ⟨rfl,rfl,rfl,rfl,rfl,rfl,trivial⟩ ⟨rfl,rfl,rfl,trivial⟩ rfl rfl rfl (keepLt0 _),⟨M2,0,rfl,by omega,Mem.le.refl _,rfl⟩⟩,?_⟩
 rintro m z ⟨M3,j,rfl,hj,m3,rfl⟩
 have gB:=hB2.le m3
 obtain ⟨L,h3,h4,h5⟩:=gB.q
 have h1:=gB.l
 have h2:=gB.s.nat
 have hLl:L.length=s.length:=by have:=congrArg List.length h5;rw[List.length_map,List.length_map,qX_len,hP.len]at this;exact this
 have b2:(s.map fun (x:Nat)=>(x:Int)).length<1000000:=by rw[List.length_map];omega
 by_cases hj2:j<2
 case neg=>
  obtain rfl:j=2:=by omega
  have hchk:=(hP.bx hcl hst).chk (smB7.le (Nat.le_mul_of_pos_right _ (by decide))) h5
  have hsl:0<(s.map fun (x:Nat)=>(x:Int)).length:=by
   rw[List.length_map,←hP.len]
   rcases X with _|⟨x,r⟩
   ·exact absurd hP.sum (by decide)
   ·exact Nat.succ_pos _
  have hll:(s.map fun (x:Nat)=>(x:Int)).length=L.length:=by rw[List.length_map,hLl]
  (try with_reducible refine Fz.of ?_);have hf:=A8 @tlSt.eq_1 c1 c2 c3 e1 e2 e3 e4;refine sF ?_;(repeat' ((first|((with_reducible refine yN ?_);refine kS 36 (best_ok h1 h2 h3 h4 (by omega) b2 (by omega) hchk hsl hll (fun v1 v2 M4 m4 g1=>Stop.mk ?_)))|refine oB ?_|fail)<;>refine sF ?_<;>try with_reducible exact tT))<;>try clear hf
  have m4:Mem.le M3 M4:=m4
  have q1:=g1.n.one
  have q2:=g1.d.one
  refine Stop.go ?_
  (try with_reducible refine Fz.of ?_);have hf:=A9 c1 c2 c3 e1 e2 e3 e4 q1 q2;refine sF ?_;(repeat' ((first|((with_reducible refine yN ?_);refine kS 37 (rbest35_ok (h1.le m4) (h2.le m4) (h3.le m4) (h4.le m4) (by omega) b2 (by omega) hchk hsl hll (fun v3 v4 M5 m5 g2=>Stop.mk ?_)))|refine oB ?_|fail)<;>refine sF ?_<;>try with_reducible exact tT))<;>try clear hf
  have m5:Mem.le M4 M5:=m5
  have q3:=g2.n.one
  have q4:=g2.d.one
  have g1:=g1.le m5
  have m35:=m4.trans m5
  generalize (s.map fun (x:Nat)=>(x:Int)).getD (bestI L (s.map fun (x:Nat)=>(x:Int)).length) 0=bs at *
  generalize L.getD (bestI L (s.map fun (x:Nat)=>(x:Int)).length) zFR=bw at *
  refine Stop.go ?_
  (try with_reducible refine Fz.of ?_);have hf:=A11 c1 c2 c3 e1 e2 e3 e4 q1 q2 q3 q4;refine sF ?_;(repeat' ((first|((with_reducible refine yN ?_);refine kS 38 (psplit_ok (gB.le m35) hP hcl hst (by omega) hlen.2.2.2 smB7 (fun M6 m6=>Stop.mk ?_)))|refine oB ?_|fail)<;>refine sF ?_<;>try with_reducible exact tT))<;>try clear hf
  have m6:Mem.le M5 M6:=m6
  refine Stop.go ?_
  (try with_reducible refine Fz.of ?_);have hf:=A11 c1 c2 c3 e1 e2 e3 e4 q1 q2 q3 q4;refine sF ?_;(repeat' ((first|((with_reducible refine yN ?_);refine kS 39 (rsplit35_ok ((gB.le m35).le m6) hP hcl hst (by omega) hlen.2.2.2 smB7 (fun M7 m7=>Stop.mk ?_)))|refine oB ?_|fail)<;>refine sF ?_<;>try with_reducible exact tT))<;>try clear hf
  have m7:Mem.le M6 M7:=m7
  have g17:=g1.le (m6.trans m7)
  have g27:=g2.le (m6.trans m7)
  have bn:=g17.bn
  have bd:=g17.bd
  generalize splitX l X s=sp at *
  have d1:decide (bs=bs)=true:=by simp
  have d2:decide ((sp:Int)=(sp:Int))=true:=by simp
  refine Stop.go ?_
  (try with_reducible refine Fz.of ?_);have hf:=A12 c1 c2 c3 e1 e2 e3 e4 q1 q2 q3 q4 (A2 d1 d2);refine sF ?_;(repeat' ((first|((with_reducible refine yN ?_);first|refine kS 26 (sameFrac_ok g17.n g17.d g27.n g27.d (by omega) (by omega) ?_)|refine kS 10 (known35_ok (fun M8 m8=>Stop.mk ?_)))|refine oB ?_|fail)<;>refine sF ?_<;>try with_reducible exact tT))<;>try clear hf
  have hk:=hK M8 (m1.trans (m2.trans (m3.trans (m35.trans (m6.trans (m7.trans m8))))))
  refine Stop.go ?_
  (try with_reducible refine Fz.of ?_);have hf:=c1;refine sF ?_;(repeat' ((first|refine oB ?_|fail)<;>refine sF ?_<;>try with_reducible exact tT))<;>try clear hf
  exact hk
 have z0:decide ((j:Int)<2)=true:=by rw[decide_eq_true_eq];omega
 have z1:(0:Int)≤(j:Int):=by omega
 have z2:(j:Int)<2:=by omega
 have wj:IntKind.i64.wrap ((j:Int)+1)=((j+1:Nat):Int):=succ_i (by omega)
 obtain ⟨pp,cc,hat⟩:∃pp cc:Int,(([.ext (.int .i64 pool),.ext (.int .i64 commit),.ext (.int .i64 pool2),.ext (.int .i64 commit2)]:List AV).drop (j*2)).take 2=[.ext (.int .i64 pp),.ext (.int .i64 cc)]:=by
  rcases (by omega:j=0∨j=1) with rfl|rfl
  ·exact ⟨pool,commit,rfl⟩
  ·exact ⟨pool2,commit2,rfl⟩
 have hjo:j*2+2≤4:=by omega
 have hjo2:j*2<4:=by omega
 (try with_reducible refine Fz.of ?_);have hf:=A12 @tlSt.eq_1 z0 z1 z2 hat hjo hjo2 c1 c2 c3 e1 (A3 e2 e3 e4);refine sF ?_;(repeat' ((first|((with_reducible refine yN ?_);refine kS 31 (pRisk_ok pp h1 h2 h3 h4 (by omega) b2 (by omega) (fun v1 v2 M4 m4 g1=>Stop.mk ?_)))|refine oB ?_|fail)<;>refine sF ?_<;>try with_reducible exact tT))<;>try clear hf
 have m4:Mem.le M3 M4:=m4
 have q1:=g1.n.one
 have q2:=g1.d.one
 refine Stop.go ?_
 (try with_reducible refine Fz.of ?_);have hf:=A9 c1 c2 c3 e1 e2 e3 e4 q1 q2;refine sF ?_;(repeat' ((first|((with_reducible refine yN ?_);refine kS 32 (rRisk_ok pp (h1.le m4) (h2.le m4) (h3.le m4) (h4.le m4) (by omega) b2 (by omega) (fun v3 v4 M5 m5 g2=>Stop.mk ?_)))|refine oB ?_|fail)<;>refine sF ?_<;>try with_reducible exact tT))<;>try clear hf
 have m5:Mem.le M4 M5:=m5
 have q3:=g2.n.one
 have q4:=g2.d.one
 have n22:=m4.trans m5
 refine Stop.go ?_
 (try with_reducible refine Fz.of ?_);have hf:=A11 c1 c2 c3 e1 e2 e3 e4 q1 q2 q3 q4;refine sF ?_;(repeat' ((first|((with_reducible refine yN ?_);refine kS 27 (pfailing_ok (fl:=opN f) (dt:=opN g) pp (h1.le n22) (h2.le n22) (h3.le n22) (h4.le n22) (by omega) b2 (by omega) ((k1.le m3).le n22) ((k2.le m3).le n22) (fun v5 v6 M6 m6 g3=>Stop.mk ?_)))|refine oB ?_|fail)<;>refine sF ?_<;>try with_reducible exact tT))<;>try clear hf
 have m6:Mem.le M5 M6:=m6
 have q5:=g3.n.one
 have q6:=g3.d.one
 have n23:=n22.trans m6
 refine Stop.go ?_
 (try with_reducible refine Fz.of ?_);have hf:=A12 c1 c2 c3 e1 e2 e3 e4 q1 q2 q3 q4 (A2 q5 q6);refine sF ?_;(repeat' ((first|((with_reducible refine yN ?_);refine kS 33 (rfailing_ok (fl:=opN f) (dt:=opN g) pp (h1.le n23) (h2.le n23) (h3.le n23) (h4.le n23) (by omega) b2 (by omega) ((k1.le m3).le n23) ((k2.le m3).le n23) (fun v7 v8 M7 m7 g4=>Stop.mk ?_)))|refine oB ?_|fail)<;>refine sF ?_<;>try with_reducible exact tT))<;>try clear hf
 have m7:Mem.le M6 M7:=m7
 have q7:=g4.n.one
 have q8:=g4.d.one
 have n24:=n23.trans m7
 refine Stop.go ?_
 (try with_reducible refine Fz.of ?_);have hf:=A12 c1 c2 c3 e1 e2 e3 e4 q1 q2 q3 q4 (A4 q5 q6 q7 q8);refine sF ?_;(repeat' ((first|((with_reducible refine yN ?_);refine kS 34 (pguilt_ok cc (h1.le n24) (h2.le n24) (h3.le n24) (h4.le n24) (by omega) b2 (by omega) (fun v9 v10 M8 m8 g5=>Stop.mk ?_)))|refine oB ?_|fail)<;>refine sF ?_<;>try with_reducible exact tT))<;>try clear hf
 have m8:Mem.le M7 M8:=m8
 have q9:=g5.n.one
 have q10:=g5.d.one
 have n25:=n24.trans m8
 refine Stop.go ?_
 (try with_reducible refine Fz.of ?_);have hf:=A12 c1 c2 c3 e1 e2 e3 e4 q1 q2 q3 q4 (A6 q5 q6 q7 q8 q9 q10);refine sF ?_;(repeat' ((first|((with_reducible refine yN ?_);refine kS 35 (rguilt_ok cc (h1.le n25) (h2.le n25) (h3.le n25) (h4.le n25) (by omega) b2 (by omega) (fun v11 v12 M9 m9 g6=>Stop.mk ?_)))|refine oB ?_|fail)<;>refine sF ?_<;>try with_reducible exact tT))<;>try clear hf
 have m9:Mem.le M8 M9:=m9
 have q11:=g6.n.one
 have q12:=g6.d.one
 have n26:=n25.trans m9
 generalize riskE l (s.map fun (x:Nat)=>(x:Int)) L pp=r1 at *
 generalize failF l (s.map fun (x:Nat)=>(x:Int)) L (opN f) (opN g) pp=r2 at *
 generalize guiltF l (s.map fun (x:Nat)=>(x:Int)) L cc=r3 at *
 have d1:decide (r1.1=r1.1)=true:=by simp
 have d2:decide (r2.1=r2.1)=true:=by simp
 have d3:decide (r3.1=r3.1)=true:=by simp
 have a1:=g1.le (m5.trans (m6.trans (m7.trans (m8.trans m9))))
 have a2:=g2.le (m6.trans (m7.trans (m8.trans m9)))
 have a3:=g3.le (m7.trans (m8.trans m9))
 have a4:=g4.le (m8.trans m9)
 have a5:=g5.le m9
 have a6:=g6
 have b3:=a1.bn
 have b4:=a1.bd
 have b5:=a3.bn
 have b6:=a3.bd
 have b7:=a5.bn
 have b8:=a5.bd
 refine Stop.go ?_
 (try with_reducible refine Fz.of ?_);have hf:=A12 wj c1 c2 c3 e1 e2 e3 e4 q1 q2 q3 (A12 q4 q5 q6 q7 q8 q9 q10 q11 q12 d1 d2 d3);refine sF ?_;(repeat' ((first|((with_reducible refine yN ?_);first|refine kS 26 (sameFrac_ok a1.n a1.d a2.n a2.d (by omega) (by omega) ?_)|refine kS 26 (sameFrac_ok a3.n a3.d a4.n a4.d (by omega) (by omega) ?_)|refine kS 26 (sameFrac_ok a5.n a5.d a6.n a6.d (by omega) (by omega) ?_))|refine oB ?_|fail)<;>refine sF ?_<;>try with_reducible exact tT))<;>try clear hf
 exact ⟨2-(j+1),tlSt M9 wr ws ww y1 y2 x1 x2 pool commit pool2 commit2 (j+1),by omega,le_sub ⟨rfl,rfl,rfl,rfl,rfl,rfl,trivial⟩ ⟨rfl,rfl,rfl,trivial⟩ rfl rfl rfl (keepLt0 _),M9,j+1,rfl,by omega,m3.trans n26,rfl⟩
end
end Go.Proofs.YtbclgnojcnkehaaGreat.Sx
