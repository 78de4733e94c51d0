/- The last part of the texts of this claim: its own law. -/
import Derived.Test.YtiipiciemgdaeaaGreatUBP5
namespace Go.Proofs.YtiipiciemgdaeaaGreat.Sx
open Go Go.RowKit
set_option linter.unusedVariables false
set_option linter.unusedSimpArgs false
set_option maxRecDepth 100000
set_option maxHeartbeats 8000000
attribute [local congr] fin_congr finG_congr stepG_congr step1_congr runOps_congr brv_congr obl_congr condK_congr LoopK_congr seqK_congr CutK_congr vc_congr DrawK_congr regK_congr CallK_congr AskK_congr newK_congr retC_congr ret1_congr retK_congr outV_congr closeK_congr genR_congr appR_congr finD_congr finGD_congr stepGD_congr stepD_congr CallK0_congr runD_congr okR_congr CallS_congr vcX_congr
attribute [local congr] Stop_congr
set_option exponentiation.threshold 5000
section
variable {M:Mem}{K:AV→Hp→Mem→Prop}
def d36P(n:Nat)(y1 y2 x1 x2:Value)(mo:Int):List AV:=[.slo 190 0 n 1,.slo 149 0 n 2,.ext y1,.ext y2,.ext x1,.ext x2,nilE,nilE,.ext (.int .i64 mo),nilE,nilE]
def d36F(M:Mem)(u:Value)(p n:Nat)(L:List Int)(D:List FR)(y1 y2 x1 x2:Value)(mo:Int):St:={env:=[(7,.own 107 0),(6,.own 106 0),(0,.own 38 0)],hp:=[(149,32,frC D),(190,3,cE intV64 L),(107,37,d36P n y1 y2 x1 x2 mo),(106,37,se0),(38,25,[.ext u,.ext (.int .i64 (p:Int))])],M:=M,kb:=100,fx:=[38]}
theorem drawnO_ok(u:Value)(l:List Int)(m k:Nat)(hm0:0<m)(hm:m≤4)(hk0:0<k)(hk:k≤8)(hu:IsL M intV64 u l)
  (hK:∀(v:SeV) (L:List Int) (D:List FR) (N:List (Nat×Nat)) (f g dl:Nat×Nat) (p:Nat) M',p≤100→Mem.le M M'→chkL L=true→L.length≤m→D.length=L.length→okFL M' D→D.map prV=N.map opN→(∀q∈N,OkN q)→IsF M' v.y1 v.y2 (ofN f.1) (ofN f.2)→IsF M' v.x1 v.x2 (ofN g.1) (ofN g.2)→IsF M' v.d1 v.d2 (ofN dl.1) (ofN dl.2)→OkN f→OkN g→OkN dl→f.1*g.2<g.1*f.2→1≤v.most→v.most≤k→K (.ag false [.slo 190 0 L.length 1,.slo 149 0 L.length 2,.ext v.y1,.ext v.y2,.ext v.x1,.ext v.x2,.ext v.d1,.ext v.d2,.ext (.int .i64 v.most),nilE,nilE]) [(38,25,[.ext u,.ext (.int .i64 (p:Int))]),(149,32,frC D),(190,3,cE intV64 L)] M') :
  CallS Tryz.prog 10 [.own 38 0,.ext (.int .i64 (m:Int)),.ext (.int .i64 (k:Int))] [(38,25,[.ext u,.ext (.int .i64 (0:Int))])] M [] K:=by
 refine inlS (cs:=[7,8,12]) Tryz.mixed Tryz.func10 rfl (by kernel_rfl) 100 rfl rfl ?_
 simp only[Tryz.f10]
 have e0:keysH [(38,25,[AV.ext u,AV.ext (.int .i64 (0:Int))])]=[38]:=rfl
 have hf:=hu.one;refine wS ?_;(first|refine yH 13 ?_|refine yG 13 ?_);refine sF ?_;refine nextI_ok 38 u l 0 (m:Int) hu (by omega) (by omega) (by omega) (fun x hx0 hx1=>sG ?_);all_goals clear hf
 obtain ⟨q,rfl⟩:=Int.eq_ofNat_of_zero_le hx0
 have hwq:IntKind.i64.wrap (1+(q:Int))=((q+1:Nat):Int):=by rw[wrap_id (by omega) (by omega)];omega
 have hf:=A4 hwq hu.one @cE_ment @hasK_nil;refine wH ?_;refine kN 20 (plain36_ok (q+1) (by omega) (sG ?_));all_goals clear hf
 have hq8:q+1≤m:=by omega
 have hf:=A3 hu.one @cE_ment @hasK_nil;refine wH ?_;(first|refine yH 13 ?_|refine yG 13 ?_);refine sF ?_;refine nextI_ok 38 u l 1 (k:Int) hu (by omega) (by omega) (by omega) (fun y hy0 hy1=>sG ?_);all_goals clear hf
 obtain ⟨r,rfl⟩:=Int.eq_ofNat_of_zero_le hy0
 have hwr:IntKind.i64.wrap (1+(r:Int))=((r+1:Nat):Int):=by rw[wrap_id (by omega) (by omega)];omega
 obtain ⟨n,hn⟩:∃n,n=q+1:=⟨_,rfl⟩
 rw[←hn]at hq8 ⊢
 have hn1:1≤n:=by omega
 clear hwq hx0 hx1
 refine wG (A4 hwr hu.one @cE_ment @hasK_nil) ?_
 obtain ⟨mo,hmo⟩:∃mo:Int,mo=((r+1:Nat):Int):=⟨_,rfl⟩
 rw[←hmo]
 have hmo1:1≤mo∧mo≤k:=by omega
 clear hwr hy0 hy1
 refine ⟨fun z=>∃M' p L D,p≤60∧Mem.le M M'∧L.length=n∧rOK L L.length∧PriI M' D n∧z=d36St M' u p n n mo L D,?_,?_⟩
 ·refine wT (A3 hu.one @cE_ment @hasK_nil) ?_
  refine ⟨fun d z=>∃M' p L D i,d=n-i∧i≤n∧p≤6*i+2∧Mem.le M M'∧L.length=n∧rOK L L.length∧PriI M' D i∧z=d36St M' u p i n mo L D,
   ⟨n,d36St M u 2 0 n mo (List.replicate n (-1)) [],(le_nilH 107 1 149 32 37 [.slo 190 0 n 1,nilE,nilE,nilE,nilE,nilE,nilE,nilE,.ext (.int .i64 mo),nilE,nilE] 2 rfl rfl (.inl (by simp[awayB,mentE,mentH,mentL,AV.ment,hasK,cE_ment]))).trans (le_sub ⟨rfl,rfl,rfl,rfl,trivial⟩ ⟨rfl,rfl,rfl,rfl,rfl,trivial⟩ rfl rfl rfl (keepLt_of rfl)),⟨M,2,_,[],0,by omega,by omega,by omega,Mem.le.refl _,List.length_replicate,rOK_repl _,⟨rfl,fun x hx=>(by cases hx),[],rfl,fun p hp=>(by cases hp)⟩,rfl⟩⟩,?_⟩
  rintro d z ⟨M1,p,L,D,i,rfl,hi,hp,hM,hL,hr,hD,rfl⟩
  have hu1:=hu.le hM
  by_cases hlt:i<n
  case neg=>
   obtain rfl:i=n:=by omega
   have d1:decide ((i:Int)<(i:Int))=false:=by simp
   refine wT (A11 @d36St.eq_1 @d36C.eq_1 @se0.eq_1 @nilE.eq_1 d1 hu.one @cE_ment @frC_ment @frC_kill @cE_kill @hasK_nil) ?_
   exact ⟨d36St M1 u p i i mo L D,le_sub ⟨rfl,rfl,rfl,rfl,trivial⟩ ⟨rfl,rfl,rfl,rfl,rfl,trivial⟩ rfl rfl rfl (keepLt_of rfl),M1,p,L,D,by omega,hM,hL,hr,hD,rfl⟩
  have d1:decide ((i:Int)<(n:Int))=true:=by rw[decide_eq_true_eq];omega
  have d2:(i:Int)<(n:Int):=by omega
  have d3:(0:Int)≤(i:Int):=by omega
  have hw:IntKind.i64.wrap ((i:Int)+1)=((i+1:Nat):Int):=succ_i (by omega)
  have hlen:(cE intV64 L).length=n:=by rw[cE_len];exact hL
  refine wT (A11 @d36St.eq_1 @d36C.eq_1 @se0.eq_1 @nilE.eq_1 d1 hu.one @cE_ment @frC_ment @frC_kill @cE_kill @hasK_nil) ?_
  refine ⟨fun z=>∃p' L',L'.length=n∧rOK L' L'.length∧p'≤p+2∧z=d36St M1 u p' i n mo L' D,?_,?_⟩
  ·rcases Nat.eq_zero_or_pos i with hi0|hi0
   ·have g0:decide ((0:Int)<(i:Int))=false:=by rw[decide_eq_false_iff_not];omega
    refine wT (A11 @d36St.eq_1 @d36C.eq_1 @se0.eq_1 @nilE.eq_1 g0 hu.one @cE_ment @frC_ment @frC_kill @cE_kill @hasK_nil) ?_
    exact ⟨d36St M1 u p i n mo L D,le_sub ⟨rfl,rfl,rfl,rfl,trivial⟩ ⟨rfl,rfl,rfl,rfl,rfl,trivial⟩ rfl rfl rfl (keepLt_of rfl),p,L,hL,hr,by omega,rfl⟩
   have g0:decide ((0:Int)<(i:Int))=true:=by rw[decide_eq_true_eq];omega
   have hf:=A11 @d36St.eq_1 @d36C.eq_1 @se0.eq_1 @nilE.eq_1 g0 hu.one @cE_ment @frC_ment @frC_kill @cE_kill @hasK_nil;refine wS ?_;refine yH 32 ?_;refine sF ?_;refine chance_ok 38 u l p 1 4 hu1 (by omega) (by omega) (by omega) (fun b=>sG ?_);all_goals clear hf
   cases b with
   | false=>
    refine wG (A11 @d36St.eq_1 @d36C.eq_1 @se0.eq_1 @nilE.eq_1 g0 hu.one @cE_ment @frC_ment @frC_kill @cE_kill @hasK_nil) ?_
    exact ⟨d36St M1 u (p+1) i n mo L D,le_sub ⟨rfl,rfl,rfl,rfl,trivial⟩ ⟨rfl,rfl,rfl,rfl,rfl,trivial⟩ rfl rfl rfl (keepLt_of rfl),p+1,L,hL,hr,by omega,rfl⟩
   | true=>
    refine Stop.go ?_
    (try with_reducible refine Fz.of ?_);have hf:=A12 @d36St.eq_1 @d36C.eq_1 @se0.eq_1 @nilE.eq_1 g0 d2 d3 hlen hu.one @cE_ment @frC_ment (A4 @frC_kill @cE_kill @hasK_nil @Nat.mul_one);refine sF ?_;(repeat' ((first|((with_reducible first|refine yA ?_|refine yB ?_|refine yC ?_);first|refine kH 13 ?_|refine kG 13 ?_|refine kS 13 (nextI_ok 38 u l (p+1) (i:Int) hu1 (by omega) (by omega) (by omega) (fun x hx0 hx1=>Stop.mk ?_)))|((with_reducible refine isE 34 (by decide) ?_);refine dR (rP 0 3 [] (rP 3 4 [2] [(7,[]),(8,[])])) (rgL 34 7 []) [] ?_)|refine oB ?_|fail)<;>refine sF ?_<;>try with_reducible exact tT))<;>try clear hf
    have hset:(cE intV64 L).set i (.ext (.int .i64 x))=cE intV64 (L.set i x):=cE_set intV64 L i x
    refine wG (A12 @d36St.eq_1 @d36C.eq_1 @se0.eq_1 @nilE.eq_1 g0 d2 d3 hlen hset hu.one @cE_ment (A5 @frC_ment @frC_kill @cE_kill @hasK_nil @Nat.mul_one)) ?_
    exact ⟨d36St M1 u (p+1+1) i n mo (L.set i x) D,le_sub ⟨rfl,rfl,rfl,rfl,trivial⟩ ⟨rfl,rfl,rfl,rfl,rfl,trivial⟩ rfl rfl rfl (keepLt_of rfl),p+1+1,L.set i x,by rw[List.length_set];exact hL,rOK_set hr (by omega) hx1,by omega,rfl⟩
  clear hL hr hlen
  rintro z ⟨p',L',hL,hr,hp',rfl⟩
  have hlD:(frC D).length=i*2:=by rw[frC_len,hD.len]
  (try with_reducible refine Fz.of ?_);have hf:=A10 @d36St.eq_1 @d36C.eq_1 @se0.eq_1 @nilE.eq_1 hu.one @cE_ment @frC_ment @frC_kill @cE_kill @hasK_nil;refine sF ?_;(repeat' ((first|((with_reducible first|refine yA ?_|refine yB ?_|refine yC ?_);first|refine kH 13 ?_|refine kG 13 ?_|refine kS 13 (nextI_ok 38 u l p' 9 hu1 (by omega) (by omega) (by omega) (fun x hx0 hx1=>Stop.mk ?_)))|((with_reducible refine isE 42 (by decide) ?_);refine dR ((0,[]) :: (1,[]) :: (rP 2 5 [1] (rP 7 3 [] []))) (rgL 42 7 []) [] ?_)|refine oB ?_|fail)<;>refine sF ?_<;>try with_reducible exact tT))<;>try clear hf
  obtain ⟨a,rfl⟩:=Int.eq_ofNat_of_zero_le hx0
  obtain ⟨b,hb⟩:∃b,b=a+1:=⟨_,rfl⟩
  have w2:IntKind.i64.wrap (1+(a:Int))=(b:Int):=by rw[wrap_id (by omega) (by omega)];omega
  have hok:=redN_ok (n:=b) (d:=10) (by omega) (by omega) (by omega)
  refine Stop.go ?_
  (try with_reducible refine Fz.of ?_);have hf:=A10 @d36C.eq_1 @se0.eq_1 @nilE.eq_1 w2 hu.one @cE_ment @frC_ment @frC_kill @cE_kill @hasK_nil;refine sF ?_;(repeat' ((first|((with_reducible first|refine yN ?_|refine yM ?_);refine kS 12 (sml_ok b 10 (by omega) (by omega) (by omega) (fun v1 v2 M2 a1 a2 a3 _ _=>Stop.mk ?_)))|((with_reducible refine isE 42 (by decide) ?_);refine dR ((0,[]) :: (1,[]) :: (rP 2 5 [1] (rP 7 3 [] []))) (rgL 42 7 []) [] ?_)|refine oB ?_|fail)<;>refine sF ?_<;>try with_reducible exact tT))<;>try clear hf
  have a1:Mem.le M1 M2:=a1
  have p1:=a2.one
  have p2:=a3.one
  have hf:IsF M2 v1 v2 (ofN (red b 10).1) (ofN (red b 10).2):=isF_ofN a2 a3 ⟨(sm1000 (by have:=hok.le1;omega)).len,(sm1000 (by have:=hok.le1;omega)).len⟩
  have hD2:=(hD.le a1).snoc hf hok
  have ap:frC D++[.ext v1,.ext v2]=frC (D++[⟨v1,v2,ofN (red b 10).1,ofN (red b 10).2⟩]):=by simp[frC,FR.c]
  refine Stop.go ?_
  (try with_reducible refine Fz.of ?_);have hf:=A12 @d36C.eq_1 @se0.eq_1 @nilE.eq_1 p1 p2 ap hlD hw hu.one @cE_ment @frC_ment (A3 @frC_kill @cE_kill @hasK_nil);refine sF ?_;(repeat' ((first|((with_reducible refine isE 42 (by decide) ?_);refine dR ((0,[]) :: (1,[]) :: (rP 2 5 [1] (rP 7 3 [] []))) (rgL 42 7 []) [] ?_)|refine oB ?_|fail)<;>refine sF ?_<;>try with_reducible exact tT))<;>try clear hf
  exact ⟨n-(i+1),d36St M2 u (p'+1) (i+1) n mo L' (D++[⟨v1,v2,ofN (red b 10).1,ofN (red b 10).2⟩]),by omega,le_sub ⟨rfl,rfl,rfl,rfl,trivial⟩ ⟨rfl,rfl,rfl,rfl,rfl,trivial⟩ rfl rfl rfl (keepLt_of rfl),M2,_,L',_,i+1,rfl,by omega,by omega,hM.trans a1,hL,hr,hD2,rfl⟩
 ·rintro z ⟨M1,p,L,D,hp,hM,hL,hr,hD,rfl⟩
  have hu3:=hu.le hM
  have hD3:=hD
  have m03:=hM
  have hcl:chkL L=true:=by simp only[chkL,decide_eq_true_eq];exact ⟨by omega,by omega,hr⟩
  have hf:=A10 @d36St.eq_1 @d36C.eq_1 @se0.eq_1 @nilE.eq_1 @cE_ment @cE_kill @frC_ment @frC_kill @hasK_nil hu.one;refine wS ?_;(first|refine yH 13 ?_|refine yG 13 ?_);refine sF ?_;refine nextI_ok 38 u l p 8 hu3 (by omega) (by omega) (by omega) (fun x hx0 hx1=>sG ?_);all_goals clear hf
  obtain ⟨m1,rfl⟩:=Int.eq_ofNat_of_zero_le hx0
  obtain ⟨a,ha⟩:∃a,a=m1+1:=⟨_,rfl⟩
  have w2:IntKind.i64.wrap (1+(m1:Int))=(a:Int):=by rw[wrap_id (by omega) (by omega)];omega
  have w3:IntKind.i64.wrap ((a:Int)+1)=((a+1:Nat):Int):=succ_i (by omega)
  have w5:IntKind.i64.wrap (9-(a:Int))=((9-a:Nat):Int):=by rw[wrap_id (by omega) (by omega)];omega
  have hok:=redN_ok (n:=a) (d:=10) (by omega) (by omega) (by omega)
  have hf:=A12 @d36St.eq_1 @d36C.eq_1 @se0.eq_1 @nilE.eq_1 @cE_ment @cE_kill @frC_ment @frC_kill @hasK_nil w2 w3 (A2 w5 hu.one);refine wH ?_;(first|refine yN ?_|refine yM ?_);refine kS 12 (sml_ok a 10 (by omega) (by omega) (by omega) (fun v1 v2 M4 a1 a2 a3 _ _=>sG ?_));all_goals clear hf
  have a1:Mem.le M1 M4:=a1
  have p1:=a2.one
  have p2:=a3.one
  have hf:IsF M4 v1 v2 (ofN (red a 10).1) (ofN (red a 10).2):=isF_ofN a2 a3 ⟨(sm1000 (by have:=hok.le1;omega)).len,(sm1000 (by have:=hok.le1;omega)).len⟩
  have hu4:=hu3.le a1
  have hf:=A12 @d36St.eq_1 @d36C.eq_1 @se0.eq_1 @nilE.eq_1 @cE_ment @cE_kill @frC_ment @frC_kill @hasK_nil p1 p2 (A4 w2 w3 w5 hu.one);refine wH ?_;(first|refine yH 13 ?_|refine yG 13 ?_);refine sF ?_;refine nextI_ok 38 u l (p+1) ((9-a:Nat):Int) hu4 (by omega) (by omega) (by omega) (fun z hz0 hz1=>sG ?_);all_goals clear hf
  obtain ⟨m2,rfl⟩:=Int.eq_ofNat_of_zero_le hz0
  obtain ⟨a2',hnm2⟩:∃n2,n2=a+1+m2:=⟨_,rfl⟩
  have w6:IntKind.i64.wrap (((a+1:Nat):Int)+(m2:Int))=(a2':Int):=by rw[wrap_id (by omega) (by omega)];omega
  have hok2:=redN_ok (n:=a2') (d:=10) (by omega) (by omega) (by omega)
  have hf:=A12 @d36St.eq_1 @d36C.eq_1 @se0.eq_1 @nilE.eq_1 @cE_ment @cE_kill @frC_ment @frC_kill @hasK_nil p1 p2 (A2 w6 hu.one);refine wH ?_;(first|refine yN ?_|refine yM ?_);refine kS 12 (sml_ok a2' 10 (by omega) (by omega) (by omega) (fun v3 v4 M5 b1 b2 b3 _ _=>sG ?_));all_goals clear hf
  have b1:Mem.le M4 M5:=b1
  have p3:=b2.one
  have p4:=b3.one
  have hf2:IsF M5 v3 v4 (ofN (red a2' 10).1) (ofN (red a2' 10).2):=isF_ofN b2 b3 ⟨(sm1000 (by have:=hok2.le1;omega)).len,(sm1000 (by have:=hok2.le1;omega)).len⟩
  have hlt2:=two_lt (show a<a2' by omega) (show 0<10 by omega) (red_p (x:=a) (d:=10) (by omega)).eq (red_p (x:=a2') (d:=10) (by omega)).eq (red_p (x:=a) (d:=10) (by omega)).pos (red_p (x:=a2') (d:=10) (by omega)).pos
  refine wG (A12 @d36St.eq_1 @d36C.eq_1 @se0.eq_1 @nilE.eq_1 @cE_ment @cE_kill @frC_ment @frC_kill @hasK_nil p1 p2 (A3 p3 p4 hu.one)) ?_
  refine ⟨fun z=>∃M' y1 y2 x1 x2 f g pp,Mem.le M5 M'∧IsF M' y1 y2 (ofN f.1) (ofN f.2)∧IsF M' x1 x2 (ofN g.1) (ofN g.2)∧OkN f∧OkN g∧f.1*g.2<g.1*f.2∧pp≤80∧z=d36F M' u pp n L D y1 y2 x1 x2 mo,?_,?_⟩
  ·have hf:=A12 @d36St.eq_1 @d36C.eq_1 @se0.eq_1 @nilE.eq_1 @cE_ment @cE_kill @frC_ment @frC_kill @hasK_nil p1 p2 (A3 p3 p4 hu.one);refine wS ?_;refine yH 32 ?_;refine sF ?_;refine chance_ok 38 u l (p+1+1) 1 2 (hu4.le b1) (by omega) (by omega) (by omega) (fun b=>sG ?_);all_goals clear hf
   cases b with
   | false=>
    refine wG (A12 @d36St.eq_1 @d36C.eq_1 @se0.eq_1 @nilE.eq_1 @cE_ment @cE_kill @frC_ment @frC_kill @hasK_nil p1 p2 (A3 p3 p4 hu.one)) ?_
    exact ⟨d36F M5 u (p+1+1+1) n L D v1 v2 v3 v4 mo,le_sub ⟨rfl,rfl,rfl,trivial⟩ ⟨rfl,rfl,rfl,rfl,rfl,trivial⟩ rfl rfl rfl (keepLt_of rfl),M5,v1,v2,v3,v4,red a 10,red a2' 10,_,Mem.le.refl _,hf.le b1,hf2,hok,hok2,hlt2,by omega,rfl⟩
   | true=>
    have hok3:=redN_ok (n:=1) (d:=20) (by omega) (by omega) (by omega)
    have hok4:=redN_ok (n:=19) (d:=20) (by omega) (by omega) (by omega)
    have hf:=A12 @d36St.eq_1 @d36C.eq_1 @se0.eq_1 @nilE.eq_1 @cE_ment @cE_kill @frC_ment @frC_kill @hasK_nil p1 p2 (A3 p3 p4 hu.one);refine wH ?_;(first|refine yN ?_|refine yM ?_);refine kS 12 (sml_ok 1 20 (by omega) (by omega) (by omega) (fun v5 v6 M6 e1 e2 e3 _ _=>sG ?_));all_goals clear hf
    have e1:Mem.le M5 M6:=e1
    have p5:=e2.one
    have p6:=e3.one
    have hf3:IsF M6 v5 v6 (ofN (red 1 20).1) (ofN (red 1 20).2):=isF_ofN e2 e3 ⟨(sm1000 (by decide)).len,(sm1000 (by decide)).len⟩
    have hf:=A12 @d36St.eq_1 @d36C.eq_1 @se0.eq_1 @nilE.eq_1 @cE_ment @cE_kill @frC_ment @frC_kill @hasK_nil p1 p2 (A5 p3 p4 p5 p6 hu.one);refine wH ?_;(first|refine yN ?_|refine yM ?_);refine kS 12 (sml_ok 19 20 (by omega) (by omega) (by omega) (fun v7 v8 M7 g1 g2 g3 _ _=>sG ?_));all_goals clear hf
    have g1:Mem.le M6 M7:=g1
    have p7:=g2.one
    have p8:=g3.one
    have hf4:IsF M7 v7 v8 (ofN (red 19 20).1) (ofN (red 19 20).2):=isF_ofN g2 g3 ⟨(sm1000 (by decide)).len,(sm1000 (by decide)).len⟩
    refine wG (A12 @d36St.eq_1 @d36C.eq_1 @se0.eq_1 @nilE.eq_1 @cE_ment @cE_kill @frC_ment @frC_kill @hasK_nil p1 p2 (A7 p3 p4 p5 p6 p7 p8 hu.one)) ?_
    exact ⟨d36F M7 u (p+1+1+1) n L D v5 v6 v7 v8 mo,le_sub ⟨rfl,rfl,rfl,trivial⟩ ⟨rfl,rfl,rfl,rfl,rfl,trivial⟩ rfl rfl rfl (keepLt_of rfl),M7,v5,v6,v7,v8,red 1 20,red 19 20,_,e1.trans g1,hf3.le g1,hf4,hok3,hok4,by decide,by omega,rfl⟩
  ·clear p1 p2 p3 p4 hf hf2 hok hok2 hlt2 w2 w3 w5 w6
   rintro z ⟨M6,y1,y2,x1,x2,f,g,pp,m6,hy,hxF,hof,hog,hfg,hpp,rfl⟩
   have p1:=hy.n.one
   have p2:=hy.d.one
   have p3:=hxF.n.one
   have p4:=hxF.d.one
   have m36:=a1.trans (b1.trans m6)
   have hpl:∀x∈([2,3,5,10,20]:List Int),2≤x∧x≤20:=by decide
   have hf:=A12 @d36F.eq_1 @d36P.eq_1 @se0.eq_1 @nilE.eq_1 @cE_ment @cE_kill @frC_ment @frC_kill @hasK_nil p1 p2 (A3 p3 p4 hu.one);refine wS ?_;refine yH 42 ?_;refine sF ?_;refine pick5k38_ok u l pp [2,3,5,10,20] rfl (hu3.le m36) (by omega) (fun x hx=>sG ?_);all_goals clear hf
   obtain ⟨x0,x3⟩:=hpl x (by assumption)
   obtain ⟨dd,rfl⟩:=Int.eq_ofNat_of_zero_le (show 0≤x by omega)
   have hok5:=redN_ok (n:=1) (d:=dd) (by omega) (by omega) (by omega)
   have hf:=A12 @d36P.eq_1 @se0.eq_1 @nilE.eq_1 @cE_ment @cE_kill @frC_ment @frC_kill @hasK_nil p1 p2 p3 (A5 p4 hu.one @cE_ment @cE_kill @hasK_nil);refine wH ?_;(first|refine yN ?_|refine yM ?_);refine kS 12 (sml_ok 1 dd (by omega) (by omega) (by omega) (fun v9 v10 M7 g1 g2 g3 _ _=>sG ?_));all_goals clear hf
   have g1:Mem.le M6 M7:=g1
   have p7:=g2.one
   have p8:=g3.one
   have hf4:IsF M7 v9 v10 (ofN (red 1 dd).1) (ofN (red 1 dd).2):=isF_ofN g2 g3 ⟨(sm1000 (by have:=hok5.le1;omega)).len,(sm1000 (by have:=hok5.le1;omega)).len⟩
   have m37:=m36.trans g1
   obtain ⟨N,hN1,hN2⟩:=hD3.val
   have hk:=hK ⟨.slice none 0 0,.slice none 0 0,y1,y2,x1,x2,v9,v10,mo,.slice none 0 0,.slice none 0 0⟩ L D N f g (red 1 dd) (pp+1) M7 (by omega) (m03.trans m37) hcl (by omega) (by rw[hD3.len,hL]) (hD3.ok.le m37) hN1 hN2 (hy.le g1) (hxF.le g1) hf4 hof hog hok5 hfg hmo1.1 hmo1.2
   unfold nilE at hk
   rw[hL]at hk
   refine wG (A12 @d36P.eq_1 @se0.eq_1 @nilE.eq_1 @cE_ment @cE_kill @frC_ment @frC_kill @hasK_nil p1 p2 p3 (A7 p4 p7 p8 hu.one @cE_ment @cE_kill @hasK_nil)) ?_
   exact hk
end
theorem Fz.viaN{z:St}{J B:St→Prop}(h:Fz z J)(hB:∀y,J y→B y):Fz z B:=fun c n a w hcx g=>by
 obtain ⟨y,g1,h1⟩:=h c n a w hcx g
 exact ⟨y,g1,hB y h1⟩
section
variable {M:Mem}{K:AV→Hp→Mem→Prop}
def cnwC(n m:Nat)(y1 y2 x1 x2 d1 d2:Value)(mo:Int):List AV:=[.slo 190 0 n 1,.slo 149 0 m 2,.ext y1,.ext y2,.ext x1,.ext x2,.ext d1,.ext d2,.ext (.int .i64 mo),nilE,nilE]
def cnwS(M:Mem)(u:Value)(p n m:Nat)(L:List Int)(D:List FR)(y1 y2 x1 x2 d1 d2:Value)(mo:Int):St:={env:=[(8,.own 31 0),(7,.own 38 0)],hp:=[(149,32,frC D),(190,3,cE intV64 L),(31,37,cnwC n m y1 y2 x1 x2 d1 d2 mo),(38,25,[.ext u,.ext (.int .i64 (p:Int))])],M:=M,kb:=23,fx:=[]}
def cnwE(M:Mem)(u:Value)(p:Nat)(w:SeV):St:={env:=[(8,.own 31 0),(7,.own 38 0)],hp:=[(31,37,w.c),(38,25,[.ext u,.ext (.int .i64 (p:Int))])],M:=M,kb:=23,fx:=[]}
structure CnwI (M:Mem) (n m:Nat) (L:List Int) (D:List FR) (y1 y2 x1 x2 d1 d2:Value) (fl dt dd:LP):Prop where
 ln:L.length=n
 lm:D.length=m
 ok:okFL M D
 fy:IsF M y1 y2 fl.1 fl.2
 fx:IsF M x1 x2 dt.1 dt.2
 fd:IsF M d1 d2 dd.1 dd.2
 nb:n<1000000
 mb:m<1000000
theorem cnw_fz{M0:Mem}{u:Value}{z:St}(h:∃M' p n m L D y1 y2 x1 x2 d1 d2 fl dt dd mo,Mem.le M0 M'∧CnwI M' n m L D y1 y2 x1 x2 d1 d2 fl dt dd∧z=cnwS M' u p n m L D y1 y2 x1 x2 d1 d2 mo) :
  Fz z (fun y=>∃M' p w L D fl dt dd,Mem.le M0 M'∧SeR M' w L D fl dt dd [] []∧w.uq=.slice none 0 0∧w.uf=.slice none 0 0∧y=cnwE M' u p w):=by
 obtain ⟨M',p,n,m,L,D,y1,y2,x1,x2,d1,d2,fl,dt,dd,mo,hM,hI,rfl⟩:=h
 have hn:=hI.ln
 have hm:=hI.lm
 refine Fz.bind (Fz.cellI (k:=190) (j:=31) (p0:=0) (n:=n) (q:=1) (off:=0) (T:=3) (T0:=37) (L.map intV64) [(8,.own 31 0),(7,.own 38 0)] [(149,32,frC D),(38,25,[.ext u,.ext (.int .i64 (p:Int))])] rfl rfl rfl (by rw[List.length_map];omega) (show 23≤190 by decide) (by decide) ⟨rfl,rfl,trivial⟩ (by simp[mentE,AV.ment]) ⟨rfl,rfl,trivial⟩ (by simp[mentH,mentL,AV.ment,frC_ment]) (keepLt_of rfl) (fun j hj hj2=>?_) (fun M2 wr hM2 hwr _=>?_))
 ·exfalso
  have hj:j<23:=hj
  simp only[cnwS,lkH]at hj2
  rw[if_neg (by omega),if_neg (by omega),if_neg (by omega),if_neg (by omega)]at hj2
  cases hj2
 have hM2:Mem.le M' M2:=hM2
 refine Fz.cellI (k:=149) (j:=31) (p0:=1) (n:=m) (q:=2) (off:=0) (T:=32) (T0:=37) (D.flatMap FR.c) [(8,.own 31 0),(7,.own 38 0)] [(38,25,[.ext u,.ext (.int .i64 (p:Int))])] rfl rfl rfl (by rw[flat_len (z:=2) (f:=FR.c) (fun _=>rfl),hm];omega) (show 23≤149 by decide) (by decide) ⟨rfl,rfl,trivial⟩ (by simp[mentE,AV.ment]) ⟨rfl,trivial⟩ (by simp[mentH,mentL,AV.ment]) (keepLt_of rfl) (fun j hj hj2=>?_) (fun M3 wp hM3 hwp _=>?_)
 ·exfalso
  have hj:j<23:=hj
  simp only[lkH]at hj2
  rw[if_neg (by omega),if_neg (by omega),if_neg (by omega)]at hj2
  cases hj2
 have hM3:Mem.le M2 M3:=hM3
 rw[List.drop_zero,List.take_of_length_le (by rw[List.length_map];omega)]at hwr
 rw[List.drop_zero,List.take_of_length_le (by rw[flat_len (z:=2) (f:=FR.c) (fun _=>rfl),hm];omega)]at hwp
 have hv1:IsL M3 intV64 wr L:=by unfold IsL;rw[hn];exact SlM.le hwr hM3
 have hu2:IsR M3 2 FR.c wp D:=by unfold IsR;rw[hm];exact hwp
 have m03:=hM2.trans hM3
 have hnb:=hI.nb
 have hmb:=hI.mb
 exact ⟨M3,p,⟨wr,wp,y1,y2,x1,x2,d1,d2,mo,.slice none 0 0,.slice none 0 0⟩,L,D,fl,dt,dd,hM.trans m03,⟨hv1,hu2,hI.ok.le m03,hI.fy.le m03,hI.fx.le m03,hI.fd.le m03,by omega,by omega,isL_nil _ _ _,isL_nil _ _ _,by simp,by simp⟩,rfl,rfl,rfl⟩
theorem cnews36_ok(u:Value)(t:List Int)(at_ most:Int)(hu:IsL M intV64 u t)(hK:∀M',Mem.le M M'→K (.ext (.bool true)) [] M'):CallS Tryz.prog 3 [.ext u,.ext (.int .i64 at_),.ext (.int .i64 most)] [] M [] K:=by
 refine inlS (cs:=[16]) Tryz.mixed Tryz.func3 rfl (by kernel_rfl) 23 rfl rfl ?_
 simp only[Tryz.f3]
 have uo:=hu.one
 have hf:=uo;refine wS ?_;refine yH 10 ?_;refine sF ?_;refine drawnO_ok u t 4 5 (by decide) (by decide) (by decide) (by decide) hu (fun w L D N f g dl p M1 hp m1 hcl hL hDl hok hDv hNo hy hx hd hfo hgo hdo hfg hm1 hm2=>sG ?_);all_goals clear hf
 have m1:Mem.le M M1:=m1
 have p1:=hy.n.one
 have p2:=hy.d.one
 have p3:=hx.n.one
 have p4:=hx.d.one
 have p5:=hd.n.one
 have p6:=hd.d.one
 have hu1:=hu.le m1
 have hl8:=chk_len hcl
 obtain ⟨n,hn⟩:∃n,n=L.length:=⟨_,rfl⟩
 rw[←hn]at hDl hl8 ⊢
 have e3:=frC_len D
 rw[hDl]at e3
 have e4:(cE intV64 L).length=n:=by rw[cE_len];exact hn.symm
 have hI:CnwI M1 n n L D w.y1 w.y2 w.x1 w.x2 w.d1 w.d2 (opN f) (opN g) (opN dl):=⟨hn.symm,hDl,hok,hy,hx,hd,by omega,by omega⟩
 obtain ⟨y1,hy1⟩:∃x,x=w.y1:=⟨_,rfl⟩
 obtain ⟨y2,hy2⟩:∃x,x=w.y2:=⟨_,rfl⟩
 obtain ⟨x1,hx1⟩:∃x,x=w.x1:=⟨_,rfl⟩
 obtain ⟨x2,hx2⟩:∃x,x=w.x2:=⟨_,rfl⟩
 obtain ⟨d1,hd1⟩:∃x,x=w.d1:=⟨_,rfl⟩
 obtain ⟨d2,hd2⟩:∃x,x=w.d2:=⟨_,rfl⟩
 obtain ⟨mo,hmo⟩:∃x,x=w.most:=⟨_,rfl⟩
 rw[←hy1,←hy2,←hx1,←hx2,←hd1,←hd2]at hI
 rw[←hy1]at p1
 rw[←hy2]at p2
 rw[←hx1]at p3
 rw[←hx2]at p4
 rw[←hd1]at p5
 rw[←hd2]at p6
 rw[←hy1,←hy2,←hx1,←hx2,←hd1,←hd2,←hmo]
 refine wG (A12 @nilE.eq_1 uo p1 p2 p3 p4 p5 p6 @cE_ment @cE_kill @frC_ment (A2 @frC_kill @hasK_nil)) ?_
 refine ⟨fun z=>∃M' p n m L D y1 y2 x1 x2 d1 d2 fl dt dd mo,Mem.le M1 M'∧CnwI M' n m L D y1 y2 x1 x2 d1 d2 fl dt dd∧z=cnwS M' u p n m L D y1 y2 x1 x2 d1 d2 mo,?_,?_⟩
 ·have hf:=A12 uo p1 p2 p3 p4 p5 p6 @cE_ment @cE_kill @frC_ment @frC_kill @hasK_nil;refine wS ?_;refine kN 11 (fold_ok _ _ (sG ?_));all_goals clear hf
  generalize foldI _ 7=v
  by_cases v0:v=0
  ·have a0:decide (v=0)=true:=decide_eq_true v0
   refine wG (A12 uo p1 p2 p3 p4 p5 p6 @cE_ment @cE_kill @frC_ment @frC_kill (A2 @hasK_nil a0)) ?_
   exact ⟨cnwS M1 u (p) (n) (n) (L) (D) y1 y2 y1 y2 d1 d2 (mo),le_sub ⟨rfl,rfl,trivial⟩ ⟨rfl,rfl,rfl,rfl,trivial⟩ rfl rfl rfl (keepLt_of rfl),M1,p,n,n,L,D,y1,y2,y1,y2,d1,d2,opN f,opN f,opN dl,mo,Mem.le.refl _,⟨hI.ln,hI.lm,hI.ok,hI.fy,hI.fy,hI.fd,hI.nb,hI.mb⟩,rfl⟩
  have a0:decide (v=0)=false:=decide_eq_false v0
  by_cases v1:v=1
  ·have a1:decide (v=1)=true:=decide_eq_true v1
   have hf:=A12 uo p1 p2 p3 p4 p5 p6 @cE_ment @cE_kill @frC_ment @frC_kill (A3 @hasK_nil a0 a1);refine wH ?_;(first|refine yH 13 ?_|refine yG 13 ?_);refine sF ?_;refine nextI_ok 38 u t p 2 hu1 (by omega) (by omega) (by omega) (fun x hx0 hx1'=>sG ?_);all_goals clear hf
   obtain ⟨xx,rfl⟩:=Int.eq_ofNat_of_zero_le hx0
   have hf:=A12 uo p1 p2 p3 p4 p5 p6 @cE_ment @cE_kill @frC_ment @frC_kill @hasK_nil;refine wH ?_;(first|refine yN ?_|refine yM ?_);refine kS 12 (sml_ok xx 1 (by omega) (by omega) (by omega) (fun z1 z2 M2 m2 g1 g2 _ _=>sG ?_));all_goals clear hf
   have m2:Mem.le M1 M2:=m2
   have gF:IsF M2 z1 z2 (ofN (xx / Nat.gcd xx 1)) (ofN (1 / Nat.gcd xx 1)):=isF_ofN g1 g2 (by rw[Nat.gcd_one_right,Nat.div_one,Nat.div_one];exact ⟨(sm1000 (by omega)).len,(sm1000 (by omega)).len⟩)
   have q1:=g1.one
   have q2:=g2.one
   refine wG (A12 uo p1 p2 p3 p4 p5 p6 @cE_ment @cE_kill @frC_ment @frC_kill (A3 @hasK_nil q1 q2)) ?_
   exact ⟨cnwS M2 u (p+1) (n) (n) (L) (D) y1 y2 x1 x2 z1 z2 (mo),le_sub ⟨rfl,rfl,trivial⟩ ⟨rfl,rfl,rfl,rfl,trivial⟩ rfl rfl rfl (keepLt_of rfl),M2,p+1,n,n,L,D,y1,y2,x1,x2,z1,z2,opN f,opN g,(_,_),mo,m2,⟨hI.ln,hI.lm,hI.ok.le m2,hI.fy.le m2,hI.fx.le m2,gF,hI.nb,hI.mb⟩,rfl⟩
  have a1:decide (v=1)=false:=decide_eq_false v1
  by_cases v2:v=2
  ·have a2:decide (v=2)=true:=decide_eq_true v2
   refine Stop.go ?_
   (try with_reducible refine Fz.of ?_);have hf:=A12 uo p1 p2 p3 p4 p5 p6 @cE_ment @cE_kill @frC_ment @frC_kill (A4 @hasK_nil a0 a1 a2);refine sF ?_;(repeat' ((first|((with_reducible first|refine yA ?_|refine yB ?_|refine yC ?_);first|refine kH 13 ?_|refine kG 13 ?_|refine kS 13 (nextI_ok 38 u t p 2 hu1 (by omega) (by omega) (by omega) (fun x hx0 hx1'=>Stop.mk ?_)))|((with_reducible refine isE 35 (by decide) ?_);refine dR ((0,[]) :: (1,[]) :: (rP 2 3 [1] [(5,[]),(6,[])])) (rgL 35 5 []) [] ?_)|refine oB ?_|fail)<;>refine sF ?_<;>try with_reducible exact tT))<;>try clear hf
   obtain ⟨xx,rfl⟩:=Int.eq_ofNat_of_zero_le hx0
   refine Stop.go ?_
   (try with_reducible refine Fz.of ?_);have hf:=A12 uo p1 p2 p3 p4 p5 p6 @cE_ment @cE_kill @frC_ment @frC_kill @hasK_nil;refine sF ?_;(repeat' ((first|((with_reducible first|refine yN ?_|refine yM ?_);refine kS 12 (sml_ok xx 1 (by omega) (by omega) (by omega) (fun z1 z2 M2 m2 g1 g2 _ _=>Stop.mk ?_)))|((with_reducible refine isE 35 (by decide) ?_);refine dR ((0,[]) :: (1,[]) :: (rP 2 3 [1] [(5,[]),(6,[])])) (rgL 35 5 []) [] ?_)|refine oB ?_|fail)<;>refine sF ?_<;>try with_reducible exact tT))<;>try clear hf
   have m2:Mem.le M1 M2:=m2
   have gF:IsF M2 z1 z2 (ofN (xx / Nat.gcd xx 1)) (ofN (1 / Nat.gcd xx 1)):=isF_ofN g1 g2 (by rw[Nat.gcd_one_right,Nat.div_one,Nat.div_one];exact ⟨(sm1000 (by omega)).len,(sm1000 (by omega)).len⟩)
   have q1:=g1.one
   have q2:=g2.one
   have hst:AV.ext z1 :: AV.ext z2 :: List.drop 2 (frC D)=frC (D.set 0 ⟨z1,z2,ofN (xx / Nat.gcd xx 1),ofN (1 / Nat.gcd xx 1)⟩):=by
    have h:=frC_setF (L:=D) (i:=0) (by omega) ⟨z1,z2,ofN (xx / Nat.gcd xx 1),ofN (1 / Nat.gcd xx 1)⟩
    simpa using h
   have z3:(0:Int)<(n:Int):=by omega
   have z4:2≤n*2:=by omega
   refine Stop.go ?_
   (try with_reducible refine Fz.of ?_);refine Go1.mk ?_;repeat' ((first|(with_reducible refine Go1.go ?_)|((with_reducible refine isDraw [some 35,some 36,some 37,some 38,some 39,some 40,none] (by decide) ?_);refine draw_rule [(0,[]),(1,[]),(2,[1]),(3,[1]),(4,[1]),(5,[]),(6,[])] [[],[0],[],[2],[2,3],[0,1,2,3,4],[0,1,2,3,4,5]] [35,36,37,38,39] [] (by kernel_rfl) (by kernel_rfl) (by kernel_rfl) (by kernel_rfl) (by exact trivial) ?_)|(refine And.intro ?_ ?_;(try simp only[sxO]at *);omega)|fail)<;>(try simp (maxSteps:=1000000) only [uo,p1,p2,p3,p4,p5,p6,cE_ment,cE_kill,frC_ment,frC_kill,hasK_nil,q1,q2,hst,z3,z4,e3,Nat.zero_mul,Nat.zero_add,↓hold_pre,awayP,runOps,regK,step1,newK,genR,appR,obl,buildR,Value.cells,closeK,keepH,outV,retK,ret1,retC,RetV,Option.getD,runD,stepD,afterK,undef,simprocAttr,sxB,↓sxD,sxE,sxTab]))
   exact ⟨cnwS M2 u (p+1) (n) (n) (L) (D.set 0 ⟨z1,z2,ofN (xx / Nat.gcd xx 1),ofN (1 / Nat.gcd xx 1)⟩) y1 y2 x1 x2 d1 d2 (mo),le_sub ⟨rfl,rfl,trivial⟩ ⟨rfl,rfl,rfl,rfl,trivial⟩ rfl rfl rfl (keepLt_of rfl),M2,p+1,n,n,L,D.set 0 ⟨z1,z2,ofN (xx / Nat.gcd xx 1),ofN (1 / Nat.gcd xx 1)⟩,y1,y2,x1,x2,d1,d2,opN f,opN g,opN dl,mo,m2,⟨hI.ln,by rw[List.length_set];exact hI.lm,fun x hx=>by
    rcases List.mem_or_eq_of_mem_set hx with h1|h1
    ·exact hI.ok.le m2 x h1
    ·rw[h1];exact gF,hI.fy.le m2,hI.fx.le m2,hI.fd.le m2,hI.nb,hI.mb⟩,rfl⟩
  have a2:decide (v=2)=false:=decide_eq_false v2
  by_cases v3:v=3
  ·have a3:decide (v=3)=true:=decide_eq_true v3
   have z3:(0:Int)<(n:Int):=by omega
   have z4:0<n:=by omega
   have hset:(cE intV64 L).set 0 (.ext (.int .i64 0))=cE intV64 (L.set 0 0):=cE_set intV64 L 0 0
   refine Stop.go ?_
   (try with_reducible refine Fz.of ?_);refine Go1.mk ?_;repeat' ((first|(with_reducible refine Go1.go ?_)|(refine And.intro ?_ ?_;(try simp only[sxO]at *);omega)|fail)<;>(try simp (maxSteps:=1000000) only [uo,p1,p2,p3,p4,p5,p6,cE_ment,cE_kill,frC_ment,frC_kill,hasK_nil,a0,a1,a2,a3,z3,z4,e4,hset,Nat.zero_mul,Nat.zero_add,↓hold_pre,awayP,runOps,regK,step1,newK,genR,appR,obl,buildR,Value.cells,closeK,keepH,outV,retK,ret1,retC,RetV,Option.getD,runD,stepD,afterK,undef,simprocAttr,sxB,↓sxD,sxE,sxTab]))
   exact ⟨cnwS M1 u (p) (n) (n) (L.set 0 0) (D) y1 y2 x1 x2 d1 d2 (mo),le_sub ⟨rfl,rfl,trivial⟩ ⟨rfl,rfl,rfl,rfl,trivial⟩ rfl rfl rfl (keepLt_of rfl),M1,p,n,n,L.set 0 0,D,y1,y2,x1,x2,d1,d2,opN f,opN g,opN dl,mo,Mem.le.refl _,⟨by rw[List.length_set];exact hI.ln,hI.lm,hI.ok,hI.fy,hI.fx,hI.fd,hI.nb,hI.mb⟩,rfl⟩
  have a3:decide (v=3)=false:=decide_eq_false v3
  by_cases v4:v=4
  ·have a4:decide (v=4)=true:=decide_eq_true v4
   refine wG (A12 uo p1 p2 p3 p4 p5 p6 @cE_ment @cE_kill @frC_ment @frC_kill (A6 @hasK_nil a0 a1 a2 a3 a4)) ?_
   exact ⟨cnwS M1 u (p) (n) (n) (L) (D) y1 y2 x1 x2 d1 d2 (most),le_sub ⟨rfl,rfl,trivial⟩ ⟨rfl,rfl,rfl,rfl,trivial⟩ rfl rfl rfl (keepLt_of rfl),M1,p,n,n,L,D,y1,y2,x1,x2,d1,d2,opN f,opN g,opN dl,most,Mem.le.refl _,hI,rfl⟩
  have a4:decide (v=4)=false:=decide_eq_false v4
  by_cases v5:v=5
  ·have a5:decide (v=5)=true:=decide_eq_true v5
   have ap:frC D++[.ext d1,.ext d2]=frC (D++[⟨d1,d2,ofN dl.1,ofN dl.2⟩]):=by simp[frC,FR.c]
   refine wG (A12 uo p1 p2 p3 p4 p5 p6 @cE_ment @cE_kill @frC_ment @frC_kill (A9 @hasK_nil a0 a1 a2 a3 a4 a5 ap e3)) ?_
   exact ⟨cnwS M1 u (p) (n) (n+1) (L) (D++[⟨d1,d2,ofN dl.1,ofN dl.2⟩]) y1 y2 x1 x2 d1 d2 (mo),le_sub ⟨rfl,rfl,trivial⟩ ⟨rfl,rfl,rfl,rfl,trivial⟩ rfl rfl rfl (keepLt_of rfl),M1,p,n,n+1,L,D++[⟨d1,d2,ofN dl.1,ofN dl.2⟩],y1,y2,x1,x2,d1,d2,opN f,opN g,opN dl,mo,Mem.le.refl _,⟨hI.ln,by rw[List.length_append,hI.lm];rfl,fun x hx=>by
    rcases List.mem_append.1 hx with hx|hx
    ·exact hI.ok x hx
    ·rw[List.mem_singleton.1 hx];exact hI.fd,hI.fy,hI.fx,hI.fd,hI.nb,by omega⟩,rfl⟩
  have a5:decide (v=5)=false:=decide_eq_false v5
  refine wG (A12 uo p1 p2 p3 p4 p5 p6 @cE_ment @cE_kill @frC_ment @frC_kill (A7 @hasK_nil a0 a1 a2 a3 a4 a5)) ?_
  exact ⟨cnwS M1 u (p) (n) (n) (L) (D) y1 y2 x1 x2 d1 d2 (mo),le_sub ⟨rfl,rfl,trivial⟩ ⟨rfl,rfl,rfl,rfl,trivial⟩ rfl rfl rfl (keepLt_of rfl),M1,p,n,n,L,D,y1,y2,x1,x2,d1,d2,opN f,opN g,opN dl,mo,Mem.le.refl _,hI,rfl⟩
 ·intro z hz
  refine Fz.viaN (cnw_fz hz) ?_
  clear hz
  rintro z ⟨M3,p3',w3,L3,D3,fl,dt,dd,m3,hR,hq,hfn,rfl⟩
  have oo:=hR.ones
  have m03:=m1.trans m3
  by_cases hc:chkC L3 D3 fl dt dd w3.most=0
  ·have hf:=A4 uo oo @cnwE.eq_1 @SeV.c.eq_1;refine wS ?_;refine kN 14 (cnew_ok hR hq hfn (fun hne=>absurd hc hne) (fun _ w D M4 m4 hfr hD hwm hRw=>sG ?_));all_goals clear hf
   have m4:Mem.le M3 M4:=m4
   have o2:=hRw.ones
   have hf:=A5 uo oo @SeV.v.eq_1 @SeV.c.eq_1 o2;refine wH ?_;refine kN 15 (rNew_ok (hR.le m4) (fun hne=>absurd hc hne) (fun _ M5 m5=>sG ?_));all_goals clear hf
   have m5:Mem.le M4 M5:=m5
   have hve:w3.fresh=w3.v:=by unfold SeV.fresh SeV.v;rw[hq,hfn]
   have hR5:=hR.le (m4.trans m5)
   have hRw5:=hRw.le m5
   have h00:decide ((0:Int)=0)=true:=by decide
   have hf:=A6 uo oo hve @SeV.v.eq_1 @SeV.c.eq_1 o2;refine wH ?_;refine kN 16 (same36_ok hRw5 hR5 hD.symm hwm.symm (sG ?_));all_goals clear hf
   have hf:=A4 uo oo @SeV.c.eq_1 o2;refine wH ?_;refine kN 17 (cCheck_ok hRw5 (fun M6 m6=>sG ?_));all_goals clear hf
   have m6:Mem.le M5 M6:=m6
   have hc0:0≤w3.most:=by
    unfold chkC at hc
    split at hc
    ·split at hc
     ·split at hc
      ·split at hc
       ·cases hc
       ·rename_i h;omega
      ·cases hc
     ·cases hc
    ·rename_i h;exact absurd hc h
   have k1:(playS L3 D fl dt dd w.most [] []).isSome=true:=by
    rw[playS_cong hD,hwm]
    unfold playS
    rw[if_pos ⟨hc,rfl,by simpa using hc0⟩]
    rfl
   have k2:(true==true)=true:=rfl
   have hf:=A6 uo oo k1 k2 @SeV.c.eq_1 o2;refine wH ?_;refine kN 18 (known36_ok (fun M7 m7=>sG ?_));all_goals clear hf
   have hk:=hK M7 (m03.trans (m4.trans (m5.trans (m6.trans m7))))
   refine wG uo ?_
   exact hk
  ·have hf:=A4 uo oo @cnwE.eq_1 @SeV.c.eq_1;refine wS ?_;refine kN 14 (cnew_ok hR hq hfn (fun _ M4 m4=>sG ?_) (fun hz=>absurd hz hc));all_goals clear hf
   have m4:Mem.le M3 M4:=m4
   have hf:=A4 uo oo @se0V.eq_1 @SeV.c.eq_1;refine wH ?_;refine kN 15 (rNew_ok (hR.le m4) (fun _ M5 m5=>sG ?_) (fun hz=>absurd hz hc));all_goals clear hf
   have m5:Mem.le M4 M5:=m5
   have d5:decide (chkC L3 D3 fl dt dd w3.most=chkC L3 D3 fl dt dd w3.most)=true:=by simp
   have d6:decide (chkC L3 D3 fl dt dd w3.most=0)=false:=decide_eq_false hc
   have hf:=A6 uo oo d5 d6 @se0V.eq_1 @SeV.c.eq_1;refine wH ?_;refine kN 16 (same36_zero (sG ?_));all_goals clear hf
   have hf:=A5 uo oo d5 d6 @SeV.c.eq_1;refine wH ?_;refine kN 17 (cCheck_ok (v:=zSe) (zSe_R M5) (fun M6 m6=>sG ?_));all_goals clear hf
   have m6:Mem.le M5 M6:=m6
   have k1:(playS [] [] ([],[]) ([],[]) ([],[]) zSe.most [] []).isSome=false:=by decide +kernel
   have k2:(false==false)=true:=rfl
   have hf:=A7 uo oo d5 d6 k1 k2 @SeV.c.eq_1;refine wH ?_;refine kN 18 (known36_ok (fun M7 m7=>sG ?_));all_goals clear hf
   have hk:=hK M7 (m03.trans (m4.trans (m5.trans (m6.trans m7))))
   refine wG uo ?_
   exact hk
end
end Go.Proofs.YtiipiciemgdaeaaGreat.Sx
