/- Part 39 of the texts of this claim: a symbolic executor and contracts of functions. -/
import Derived.Test.YtiipiciemgdaeaaGreatCvTRP4
namespace Go.Proofs.YtiipiciemgdaeaaGreat.Sx
open Go Go.RowKit
set_option linter.unusedVariables false
set_option linter.unusedSimpArgs false
set_option maxRecDepth 100000
set_option maxHeartbeats 8000000
attribute [local congr] fin_congr finG_congr stepG_congr step1_congr runOps_congr brv_congr obl_congr condK_congr LoopK_congr seqK_congr CutK_congr vc_congr DrawK_congr regK_congr CallK_congr AskK_congr newK_congr retC_congr ret1_congr retK_congr outV_congr closeK_congr genR_congr appR_congr finD_congr finGD_congr stepGD_congr stepD_congr CallK0_congr runD_congr okR_congr CallS_congr vcX_congr
attribute [local congr] Stop_congr
section
variable {M:Mem}{K:AV→Hp→Mem→Prop}
def pl36St(M:Mem)(n i m:Nat)(L:List Int):St:={env:=[(4,.ext (.int .i64 (i:Int))),(3,.own 3 0),(2,.own 2 0),(0,.ext (.int .i64 (n:Int)))],hp:=[(190,3,cE intV64 L),(3,27,[.slo 190 0 m 1]),(2,27,[.ext (.slice none 0 0)])],M:=M,kb:=0,fx:=[]}
theorem repl_succ36(i:Nat):List.replicate (i+1) (-1:Int)=List.replicate i (-1)++[-1]:=by rw[List.replicate_succ']
theorem plain36_ok(n:Nat)(hn:n≤100)(hK:K (.ag false [.slo 190 0 n 1]) [(190,3,cE intV64 (List.replicate n (-1)))] M):CallS Tryz.prog 20 [.ext (.int .i64 (n:Int))] [] M [] K:=by
 refine inlS (cs:=[]) Tryz.mixed Tryz.func20 rfl (by kernel_rfl) 0 rfl rfl ?_
 simp only[Tryz.f20]
 (try with_reducible refine Fz.of ?_);refine sU ?_;(repeat' ((first|refine oB ?_|fail)<;>refine sU ?_<;>try with_reducible exact tT))
 refine ⟨fun d z=>∃i m,i≤n∧m=i∧d=n-i∧z=pl36St M n i m (List.replicate i (-1)),⟨n,pl36St M n 0 0 [],(le_nilC 3 190 27 3 1 rfl (.inl rfl)).trans (le_sub ⟨rfl,rfl,rfl,rfl,trivial⟩ ⟨rfl,rfl,rfl,trivial⟩ rfl rfl rfl (keepLt0 _)),⟨0,0,by omega,rfl,by omega,rfl⟩⟩,?_⟩
 rintro d z ⟨i,m,hi,hm,rfl,rfl⟩
 by_cases hlt:i<n
 ·have d1:decide ((i:Int)<(n:Int))=true:=by simp;omega
  have hw:IntKind.i64.wrap ((i:Int)+1)=((i+1:Nat):Int):=by rw[wrap_id (by omega) (by omega)];omega
  have hlen:(cE intV64 (List.replicate i (-1))).length=m:=by rw[cE_len,List.length_replicate];exact hm.symm
  have hsn:cE intV64 (List.replicate i (-1))++[.ext (.int .i64 (-1))]=cE intV64 (List.replicate (i+1) (-1)):=by
   rw[repl_succ36];exact cE_snoc intV64 _ (-1)
  have hkl:killL 190 (cE intV64 (List.replicate i (-1)))=cE intV64 (List.replicate i (-1)):=by
   unfold cE
   generalize (List.replicate i (-1)).map intV64=vs
   induction vs with
   | nil=>rfl
   | cons a t ih=>simp only[List.map_cons,killL,AV.kill,ih]
  refine wT (A7 d1 hw hlen hsn @cE_ment @hasK_nil @pl36St.eq_1) ?_
  exact ⟨n-(i+1),pl36St M n (i+1) (m+1) (List.replicate (i+1) (-1)),by omega,le_sub ⟨rfl,rfl,rfl,rfl,trivial⟩ ⟨rfl,rfl,rfl,trivial⟩ rfl rfl rfl (keepLt0 _),i+1,m+1,by omega,by omega,rfl,rfl⟩
 ·have d1:decide ((i:Int)<(n:Int))=false:=by simp;omega
  have ei:i=n:=by omega
  subst ei
  subst hm
  refine wT (A4 d1 @cE_ment @hasK_nil @pl36St.eq_1) ?_
  exact hK
theorem pick5k38_ok(u:Value)(l:List Int)(p:Nat)(L:List Int)(hL:L.length=5)(hu:IsL M intV64 u l)(hp:p<1000000)(hK:∀x∈L,K (.ext (.int .i64 x)) [(38,25,[.ext u,.ext (.int .i64 ((p+1:Nat):Int))]),(173,3,cE intV64 L)] M) :
  CallS Tryz.prog 42 [.own 38 0,.slo 173 0 5 1] [(173,3,cE intV64 L),(38,25,[.ext u,.ext (.int .i64 ((p:Nat):Int))])] M [] K:=by
 refine inlS (cs:=[]) Tryz.mixed Tryz.func42 rfl (by kernel_rfl) 200 rfl rfl ?_
 simp only[Tryz.f42]
 have hf:=A6 @cE_ment @cE_len @cE_kill @hasK_nil @Nat.mul_one hu.one;refine wS ?_;refine yH 13 ?_;refine sF ?_;refine nextI_ok 38 u l p 5 hu (by omega) (by omega) (by omega) (fun x hx0 hx1=>sG ?_);all_goals clear hf
 obtain ⟨j,rfl⟩:=Int.eq_ofNat_of_zero_le hx0
 have hj:j<L.length:=by omega
 have hat:=cE_at intV64 hj
 have hm:L[j]∈L:=List.getElem_mem hj
 have a1:(0:Int)≤(j:Int):=by omega
 have a2:(j:Int)<5:=by omega
 have a3:(j:Int)<((5:Nat):Int):=by omega
 generalize L[j]=y at *
 refine wG (A11 @cE_ment @cE_len @cE_kill @hasK_nil @Nat.mul_one hu.one hat a1 a2 a3 @intV64.eq_1) ?_
 exact hK _ hm
def d36C(n i:Nat)(mo:Int):List AV:=[.slo 190 0 n 1,.slo 149 0 i 2,nilE,nilE,nilE,nilE,nilE,nilE,.ext (.int .i64 mo),nilE,nilE]
def d36St(M:Mem)(u:Value)(p i n:Nat)(mo:Int)(L:List Int)(D:List FR):St:={env:=[(8,.ext (.int .i64 (i:Int))),(7,.own 107 0),(6,.own 106 0),(0,.own 38 0)],hp:=[(149,32,frC D),(190,3,cE intV64 L),(107,37,d36C n i mo),(106,37,se0),(38,25,[.ext u,.ext (.int .i64 (p:Int))])],M:=M,kb:=100,fx:=[38]}
def d36D(wr wp y1 y2 x1 x2:Value)(mo:Int):List AV:=[.ext wr,.ext wp,.ext y1,.ext y2,.ext x1,.ext x2,nilE,nilE,.ext (.int .i64 mo),nilE,nilE]
def d36E(M:Mem)(u:Value)(p:Nat)(wr wp y1 y2 x1 x2:Value)(mo:Int):St:={env:=[(7,.own 107 0),(6,.own 106 0),(0,.own 38 0)],hp:=[(107,37,d36D wr wp y1 y2 x1 x2 mo),(106,37,se0),(38,25,[.ext u,.ext (.int .i64 (p:Int))])],M:=M,kb:=100,fx:=[38]}
theorem drawn38_ok(u:Value)(l:List Int)(m k:Nat)(hm0:0<m)(hm:m≤4)(hk0:0<k)(hk:k≤8)(hu:IsL M intV64 u l)
  (hK:∀(v:SeV) L P N f g dl (p:Nat) M',p≤100→Mem.le M M'→SeI M' v L P N f g dl→L.length≤m→v.uq=.slice none 0 0→v.uf=.slice none 0 0→f.1*g.2<g.1*f.2→1≤v.most→v.most≤k→K (.ext v.v) [(38,25,[.ext u,.ext (.int .i64 (p:Int))])] M') :
  CallS Tryz.prog 10 [.own 38 0,.ext (.int .i64 (m:Int)),.ext (.int .i64 (k:Int))] [(38,25,[.ext u,.ext (.int .i64 (0:Int))])] M [] K:=by
 refine inlS (cs:=[7,8,12]) Tryz.mixed Tryz.func10 rfl (by kernel_rfl) 100 rfl rfl ?_
 simp only[Tryz.f10]
 have e0:keysH [(38,25,[AV.ext u,AV.ext (.int .i64 (0:Int))])]=[38]:=rfl
 have hf:=hu.one;refine wS ?_;(first|refine yH 13 ?_|refine yG 13 ?_);refine sF ?_;refine nextI_ok 38 u l 0 (m:Int) hu (by omega) (by omega) (by omega) (fun x hx0 hx1=>sG ?_);all_goals clear hf
 obtain ⟨q,rfl⟩:=Int.eq_ofNat_of_zero_le hx0
 have hwq:IntKind.i64.wrap (1+(q:Int))=((q+1:Nat):Int):=by rw[wrap_id (by omega) (by omega)];omega
 have hf:=A4 hwq hu.one @cE_ment @hasK_nil;refine wH ?_;refine kN 20 (plain36_ok (q+1) (by omega) (sG ?_));all_goals clear hf
 have hq8:q+1≤m:=by omega
 have hf:=A3 hu.one @cE_ment @hasK_nil;refine wH ?_;(first|refine yH 13 ?_|refine yG 13 ?_);refine sF ?_;refine nextI_ok 38 u l 1 (k:Int) hu (by omega) (by omega) (by omega) (fun y hy0 hy1=>sG ?_);all_goals clear hf
 obtain ⟨r,rfl⟩:=Int.eq_ofNat_of_zero_le hy0
 have hwr:IntKind.i64.wrap (1+(r:Int))=((r+1:Nat):Int):=by rw[wrap_id (by omega) (by omega)];omega
 obtain ⟨n,hn⟩:∃n,n=q+1:=⟨_,rfl⟩
 rw[←hn]at hq8 ⊢
 have hn1:1≤n:=by omega
 clear hwq hx0 hx1
 refine wG (A4 hwr hu.one @cE_ment @hasK_nil) ?_
 obtain ⟨mo,hmo⟩:∃mo:Int,mo=((r+1:Nat):Int):=⟨_,rfl⟩
 rw[←hmo]
 have hmo1:1≤mo∧mo≤k:=by omega
 clear hwr hy0 hy1
 refine ⟨fun z=>∃M' p L D,p≤60∧Mem.le M M'∧L.length=n∧rOK L L.length∧PriI M' D n∧z=d36St M' u p n n mo L D,?_,?_⟩
 ·refine wT (A3 hu.one @cE_ment @hasK_nil) ?_
  refine ⟨fun d z=>∃M' p L D i,d=n-i∧i≤n∧p≤6*i+2∧Mem.le M M'∧L.length=n∧rOK L L.length∧PriI M' D i∧z=d36St M' u p i n mo L D,
   ⟨n,d36St M u 2 0 n mo (List.replicate n (-1)) [],(le_nilH 107 1 149 32 37 [.slo 190 0 n 1,nilE,nilE,nilE,nilE,nilE,nilE,nilE,.ext (.int .i64 mo),nilE,nilE] 2 rfl rfl (.inl (by simp[awayB,mentE,mentH,mentL,AV.ment,hasK,cE_ment]))).trans (le_sub ⟨rfl,rfl,rfl,rfl,trivial⟩ ⟨rfl,rfl,rfl,rfl,rfl,trivial⟩ rfl rfl rfl (keepLt_of rfl)),⟨M,2,_,[],0,by omega,by omega,by omega,Mem.le.refl _,List.length_replicate,rOK_repl _,⟨rfl,fun x hx=>(by cases hx),[],rfl,fun p hp=>(by cases hp)⟩,rfl⟩⟩,?_⟩
  rintro d z ⟨M1,p,L,D,i,rfl,hi,hp,hM,hL,hr,hD,rfl⟩
  have hu1:=hu.le hM
  by_cases hlt:i<n
  case neg=>
   obtain rfl:i=n:=by omega
   have d1:decide ((i:Int)<(i:Int))=false:=by simp
   refine wT (A11 @d36St.eq_1 @d36C.eq_1 @se0.eq_1 @nilE.eq_1 d1 hu.one @cE_ment @frC_ment @frC_kill @cE_kill @hasK_nil) ?_
   exact ⟨d36St M1 u p i i mo L D,le_sub ⟨rfl,rfl,rfl,rfl,trivial⟩ ⟨rfl,rfl,rfl,rfl,rfl,trivial⟩ rfl rfl rfl (keepLt_of rfl),M1,p,L,D,by omega,hM,hL,hr,hD,rfl⟩
  have d1:decide ((i:Int)<(n:Int))=true:=by rw[decide_eq_true_eq];omega
  have d2:(i:Int)<(n:Int):=by omega
  have d3:(0:Int)≤(i:Int):=by omega
  have hw:IntKind.i64.wrap ((i:Int)+1)=((i+1:Nat):Int):=succ_i (by omega)
  have hlen:(cE intV64 L).length=n:=by rw[cE_len];exact hL
  refine wT (A11 @d36St.eq_1 @d36C.eq_1 @se0.eq_1 @nilE.eq_1 d1 hu.one @cE_ment @frC_ment @frC_kill @cE_kill @hasK_nil) ?_
  refine ⟨fun z=>∃p' L',L'.length=n∧rOK L' L'.length∧p'≤p+2∧z=d36St M1 u p' i n mo L' D,?_,?_⟩
  ·rcases Nat.eq_zero_or_pos i with hi0|hi0
   ·have g0:decide ((0:Int)<(i:Int))=false:=by rw[decide_eq_false_iff_not];omega
    refine wT (A11 @d36St.eq_1 @d36C.eq_1 @se0.eq_1 @nilE.eq_1 g0 hu.one @cE_ment @frC_ment @frC_kill @cE_kill @hasK_nil) ?_
    exact ⟨d36St M1 u p i n mo L D,le_sub ⟨rfl,rfl,rfl,rfl,trivial⟩ ⟨rfl,rfl,rfl,rfl,rfl,trivial⟩ rfl rfl rfl (keepLt_of rfl),p,L,hL,hr,by omega,rfl⟩
   have g0:decide ((0:Int)<(i:Int))=true:=by rw[decide_eq_true_eq];omega
   have hf:=A11 @d36St.eq_1 @d36C.eq_1 @se0.eq_1 @nilE.eq_1 g0 hu.one @cE_ment @frC_ment @frC_kill @cE_kill @hasK_nil;refine wS ?_;refine yH 32 ?_;refine sF ?_;refine chance_ok 38 u l p 1 4 hu1 (by omega) (by omega) (by omega) (fun b=>sG ?_);all_goals clear hf
   cases b with
   | false=>
    refine wG (A11 @d36St.eq_1 @d36C.eq_1 @se0.eq_1 @nilE.eq_1 g0 hu.one @cE_ment @frC_ment @frC_kill @cE_kill @hasK_nil) ?_
    exact ⟨d36St M1 u (p+1) i n mo L D,le_sub ⟨rfl,rfl,rfl,rfl,trivial⟩ ⟨rfl,rfl,rfl,rfl,rfl,trivial⟩ rfl rfl rfl (keepLt_of rfl),p+1,L,hL,hr,by omega,rfl⟩
   | true=>
    refine Stop.go ?_
    (try with_reducible refine Fz.of ?_);have hf:=A12 @d36St.eq_1 @d36C.eq_1 @se0.eq_1 @nilE.eq_1 g0 d2 d3 hlen hu.one @cE_ment @frC_ment (A4 @frC_kill @cE_kill @hasK_nil @Nat.mul_one);refine sF ?_;(repeat' ((first|((with_reducible first|refine yA ?_|refine yB ?_|refine yC ?_);first|refine kH 13 ?_|refine kG 13 ?_|refine kS 13 (nextI_ok 38 u l (p+1) (i:Int) hu1 (by omega) (by omega) (by omega) (fun x hx0 hx1=>Stop.mk ?_)))|((with_reducible refine isE 34 (by decide) ?_);refine dR (rP 0 3 [] (rP 3 4 [2] [(7,[]),(8,[])])) (rgL 34 7 []) [] ?_)|refine oB ?_|fail)<;>refine sF ?_<;>try with_reducible exact tT))<;>try clear hf
    have hset:(cE intV64 L).set i (.ext (.int .i64 x))=cE intV64 (L.set i x):=cE_set intV64 L i x
    refine wG (A12 @d36St.eq_1 @d36C.eq_1 @se0.eq_1 @nilE.eq_1 g0 d2 d3 hlen hset hu.one @cE_ment (A5 @frC_ment @frC_kill @cE_kill @hasK_nil @Nat.mul_one)) ?_
    exact ⟨d36St M1 u (p+1+1) i n mo (L.set i x) D,le_sub ⟨rfl,rfl,rfl,rfl,trivial⟩ ⟨rfl,rfl,rfl,rfl,rfl,trivial⟩ rfl rfl rfl (keepLt_of rfl),p+1+1,L.set i x,by rw[List.length_set];exact hL,rOK_set hr (by omega) hx1,by omega,rfl⟩
  clear hL hr hlen
  rintro z ⟨p',L',hL,hr,hp',rfl⟩
  have hlD:(frC D).length=i*2:=by rw[frC_len,hD.len]
  (try with_reducible refine Fz.of ?_);have hf:=A10 @d36St.eq_1 @d36C.eq_1 @se0.eq_1 @nilE.eq_1 hu.one @cE_ment @frC_ment @frC_kill @cE_kill @hasK_nil;refine sF ?_;(repeat' ((first|((with_reducible first|refine yA ?_|refine yB ?_|refine yC ?_);first|refine kH 13 ?_|refine kG 13 ?_|refine kS 13 (nextI_ok 38 u l p' 9 hu1 (by omega) (by omega) (by omega) (fun x hx0 hx1=>Stop.mk ?_)))|((with_reducible refine isE 42 (by decide) ?_);refine dR ((0,[]) :: (1,[]) :: (rP 2 5 [1] (rP 7 3 [] []))) (rgL 42 7 []) [] ?_)|refine oB ?_|fail)<;>refine sF ?_<;>try with_reducible exact tT))<;>try clear hf
  obtain ⟨a,rfl⟩:=Int.eq_ofNat_of_zero_le hx0
  obtain ⟨b,hb⟩:∃b,b=a+1:=⟨_,rfl⟩
  have w2:IntKind.i64.wrap (1+(a:Int))=(b:Int):=by rw[wrap_id (by omega) (by omega)];omega
  have hok:=redN_ok (n:=b) (d:=10) (by omega) (by omega) (by omega)
  refine Stop.go ?_
  (try with_reducible refine Fz.of ?_);have hf:=A10 @d36C.eq_1 @se0.eq_1 @nilE.eq_1 w2 hu.one @cE_ment @frC_ment @frC_kill @cE_kill @hasK_nil;refine sF ?_;(repeat' ((first|((with_reducible first|refine yN ?_|refine yM ?_);refine kS 12 (sml_ok b 10 (by omega) (by omega) (by omega) (fun v1 v2 M2 a1 a2 a3 _ _=>Stop.mk ?_)))|((with_reducible refine isE 42 (by decide) ?_);refine dR ((0,[]) :: (1,[]) :: (rP 2 5 [1] (rP 7 3 [] []))) (rgL 42 7 []) [] ?_)|refine oB ?_|fail)<;>refine sF ?_<;>try with_reducible exact tT))<;>try clear hf
  have a1:Mem.le M1 M2:=a1
  have p1:=a2.one
  have p2:=a3.one
  have hf:IsF M2 v1 v2 (ofN (red b 10).1) (ofN (red b 10).2):=isF_ofN a2 a3 ⟨(sm1000 (by have:=hok.le1;omega)).len,(sm1000 (by have:=hok.le1;omega)).len⟩
  have hD2:=(hD.le a1).snoc hf hok
  have ap:frC D++[.ext v1,.ext v2]=frC (D++[⟨v1,v2,ofN (red b 10).1,ofN (red b 10).2⟩]):=by simp[frC,FR.c]
  refine Stop.go ?_
  (try with_reducible refine Fz.of ?_);have hf:=A12 @d36C.eq_1 @se0.eq_1 @nilE.eq_1 p1 p2 ap hlD hw hu.one @cE_ment @frC_ment (A3 @frC_kill @cE_kill @hasK_nil);refine sF ?_;(repeat' ((first|((with_reducible refine isE 42 (by decide) ?_);refine dR ((0,[]) :: (1,[]) :: (rP 2 5 [1] (rP 7 3 [] []))) (rgL 42 7 []) [] ?_)|refine oB ?_|fail)<;>refine sF ?_<;>try with_reducible exact tT))<;>try clear hf
  exact ⟨n-(i+1),d36St M2 u (p'+1) (i+1) n mo L' (D++[⟨v1,v2,ofN (red b 10).1,ofN (red b 10).2⟩]),by omega,le_sub ⟨rfl,rfl,rfl,rfl,trivial⟩ ⟨rfl,rfl,rfl,rfl,rfl,trivial⟩ rfl rfl rfl (keepLt_of rfl),M2,_,L',_,i+1,rfl,by omega,by omega,hM.trans a1,hL,hr,hD2,rfl⟩
 ·rintro z ⟨M1,p,L,D,hp,hM,hL,hr,hD,rfl⟩
  refine Fz.bind (Fz.cellI (k:=190) (j:=107) (p0:=0) (n:=n) (q:=1) (off:=0) (T:=3) (T0:=37) (L.map intV64) [(7,.own 107 0),(6,.own 106 0),(0,.own 38 0)] [(149,32,frC D),(106,37,se0),(38,25,[.ext u,.ext (.int .i64 (p:Int))])] rfl rfl rfl (by rw[List.length_map,hL];omega) (show 100≤190 by decide) (by decide) ⟨rfl,rfl,rfl,trivial⟩ (by simp[mentE,AV.ment]) ⟨rfl,rfl,rfl,trivial⟩ (by simp[mentH,mentL,AV.ment,frC_ment,se0,nilE]) (keepLt_of rfl) (fun j hj hj2=>?_) (fun M2 wr hM2 hwr _=>?_))
  ·have hj:j<100:=hj
   show j∈[38]
   by_cases e1:j=38
   ·subst e1;decide
   exfalso
   simp only[d36St,lkH]at hj2
   rw[if_neg (by omega),if_neg (by omega),if_neg (by omega),if_neg (by omega),if_neg (by omega)]at hj2
   cases hj2
  have hM2:Mem.le M1 M2:=hM2
  refine Fz.cellI (k:=149) (j:=107) (p0:=1) (n:=n) (q:=2) (off:=0) (T:=32) (T0:=37) (D.flatMap FR.c) [(7,.own 107 0),(6,.own 106 0),(0,.own 38 0)] [(106,37,se0),(38,25,[.ext u,.ext (.int .i64 (p:Int))])] rfl rfl rfl (by rw[flat_len (z:=2) (f:=FR.c) (fun _=>rfl),hD.len];omega) (show 100≤149 by decide) (by decide) ⟨rfl,rfl,rfl,trivial⟩ (by simp[mentE,AV.ment]) ⟨rfl,rfl,trivial⟩ (by simp[mentH,mentL,AV.ment,se0,nilE]) (keepLt_of rfl) (fun j hj hj2=>?_) (fun M3 wp hM3 hwp _=>?_)
  ·have hj:j<100:=hj
   show j∈[38]
   by_cases e1:j=38
   ·subst e1;decide
   exfalso
   simp only[lkH]at hj2
   rw[if_neg (by omega),if_neg (by omega),if_neg (by omega),if_neg (by omega)]at hj2
   cases hj2
  have hM3:Mem.le M2 M3:=hM3
  rw[List.drop_zero,List.take_of_length_le (by rw[List.length_map];omega)]at hwr
  rw[List.drop_zero,List.take_of_length_le (by rw[flat_len (z:=2) (f:=FR.c) (fun _=>rfl),hD.len];omega)]at hwp
  have hv1:IsL M3 intV64 wr L:=by unfold IsL;rw[hL];exact SlM.le hwr hM3
  have hu2:IsR M3 2 FR.c wp D:=by unfold IsR;rw[hD.len];exact hwp
  have c1:=hv1.one
  have c2:=hu2.one
  have m03:=hM.trans (hM2.trans hM3)
  have hu3:=hu.le m03
  have hD3:=hD.le (hM2.trans hM3)
  have hcl:chkL L=true:=by simp only[chkL,decide_eq_true_eq];exact ⟨by omega,by omega,hr⟩
  clear hwr hwp hM2
  have hf:=A6 @d36C.eq_1 @se0.eq_1 @nilE.eq_1 c1 c2 hu.one;refine wS ?_;(first|refine yH 13 ?_|refine yG 13 ?_);refine sF ?_;refine nextI_ok 38 u l p 8 hu3 (by omega) (by omega) (by omega) (fun x hx0 hx1=>sG ?_);all_goals clear hf
  obtain ⟨m1,rfl⟩:=Int.eq_ofNat_of_zero_le hx0
  obtain ⟨a,ha⟩:∃a,a=m1+1:=⟨_,rfl⟩
  have w2:IntKind.i64.wrap (1+(m1:Int))=(a:Int):=by rw[wrap_id (by omega) (by omega)];omega
  have w3:IntKind.i64.wrap ((a:Int)+1)=((a+1:Nat):Int):=succ_i (by omega)
  have w5:IntKind.i64.wrap (9-(a:Int))=((9-a:Nat):Int):=by rw[wrap_id (by omega) (by omega)];omega
  have hok:=redN_ok (n:=a) (d:=10) (by omega) (by omega) (by omega)
  have hf:=A9 @d36C.eq_1 @se0.eq_1 @nilE.eq_1 c1 c2 w2 w3 w5 hu.one;refine wH ?_;(first|refine yN ?_|refine yM ?_);refine kS 12 (sml_ok a 10 (by omega) (by omega) (by omega) (fun v1 v2 M4 a1 a2 a3 _ _=>sG ?_));all_goals clear hf
  have a1:Mem.le M3 M4:=a1
  have p1:=a2.one
  have p2:=a3.one
  have hf:IsF M4 v1 v2 (ofN (red a 10).1) (ofN (red a 10).2):=isF_ofN a2 a3 ⟨(sm1000 (by have:=hok.le1;omega)).len,(sm1000 (by have:=hok.le1;omega)).len⟩
  have hu4:=hu3.le a1
  have hf:=A11 @d36C.eq_1 @se0.eq_1 @nilE.eq_1 c1 c2 p1 p2 w2 w3 w5 hu.one;refine wH ?_;(first|refine yH 13 ?_|refine yG 13 ?_);refine sF ?_;refine nextI_ok 38 u l (p+1) ((9-a:Nat):Int) hu4 (by omega) (by omega) (by omega) (fun z hz0 hz1=>sG ?_);all_goals clear hf
  obtain ⟨m2,rfl⟩:=Int.eq_ofNat_of_zero_le hz0
  obtain ⟨a2',hnm2⟩:∃n2,n2=a+1+m2:=⟨_,rfl⟩
  have w6:IntKind.i64.wrap (((a+1:Nat):Int)+(m2:Int))=(a2':Int):=by rw[wrap_id (by omega) (by omega)];omega
  have hok2:=redN_ok (n:=a2') (d:=10) (by omega) (by omega) (by omega)
  have hf:=A9 @d36C.eq_1 @se0.eq_1 @nilE.eq_1 c1 c2 p1 p2 w6 hu.one;refine wH ?_;(first|refine yN ?_|refine yM ?_);refine kS 12 (sml_ok a2' 10 (by omega) (by omega) (by omega) (fun v3 v4 M5 b1 b2 b3 _ _=>sG ?_));all_goals clear hf
  have b1:Mem.le M4 M5:=b1
  have p3:=b2.one
  have p4:=b3.one
  have hf2:IsF M5 v3 v4 (ofN (red a2' 10).1) (ofN (red a2' 10).2):=isF_ofN b2 b3 ⟨(sm1000 (by have:=hok2.le1;omega)).len,(sm1000 (by have:=hok2.le1;omega)).len⟩
  have hlt2:=two_lt (show a<a2' by omega) (show 0<10 by omega) (red_p (x:=a) (d:=10) (by omega)).eq (red_p (x:=a2') (d:=10) (by omega)).eq (red_p (x:=a) (d:=10) (by omega)).pos (red_p (x:=a2') (d:=10) (by omega)).pos
  refine wG (A10 @d36C.eq_1 @se0.eq_1 @nilE.eq_1 c1 c2 p1 p2 p3 p4 hu.one) ?_
  refine ⟨fun z=>∃M' y1 y2 x1 x2 f g pp,Mem.le M5 M'∧IsF M' y1 y2 (ofN f.1) (ofN f.2)∧IsF M' x1 x2 (ofN g.1) (ofN g.2)∧OkN f∧OkN g∧f.1*g.2<g.1*f.2∧pp≤80∧z=d36E M' u pp wr wp y1 y2 x1 x2 mo,?_,?_⟩
  ·have hf:=A10 @d36C.eq_1 @se0.eq_1 @nilE.eq_1 c1 c2 p1 p2 p3 p4 hu.one;refine wS ?_;refine yH 32 ?_;refine sF ?_;refine chance_ok 38 u l (p+1+1) 1 2 (hu4.le b1) (by omega) (by omega) (by omega) (fun b=>sG ?_);all_goals clear hf
   cases b with
   | false=>
    refine wG (A10 @d36C.eq_1 @se0.eq_1 @nilE.eq_1 c1 c2 p1 p2 p3 p4 hu.one) ?_
    exact ⟨d36E M5 u (p+1+1+1) wr wp v1 v2 v3 v4 mo,le_sub ⟨rfl,rfl,rfl,trivial⟩ ⟨rfl,rfl,rfl,trivial⟩ rfl rfl rfl (keepLt_of rfl),M5,v1,v2,v3,v4,red a 10,red a2' 10,_,Mem.le.refl _,hf.le b1,hf2,hok,hok2,hlt2,by omega,rfl⟩
   | true=>
    have hok3:=redN_ok (n:=1) (d:=20) (by omega) (by omega) (by omega)
    have hok4:=redN_ok (n:=19) (d:=20) (by omega) (by omega) (by omega)
    have hf:=A10 @d36C.eq_1 @se0.eq_1 @nilE.eq_1 c1 c2 p1 p2 p3 p4 hu.one;refine wH ?_;(first|refine yN ?_|refine yM ?_);refine kS 12 (sml_ok 1 20 (by omega) (by omega) (by omega) (fun v5 v6 M6 e1 e2 e3 _ _=>sG ?_));all_goals clear hf
    have e1:Mem.le M5 M6:=e1
    have p5:=e2.one
    have p6:=e3.one
    have hf3:IsF M6 v5 v6 (ofN (red 1 20).1) (ofN (red 1 20).2):=isF_ofN e2 e3 ⟨(sm1000 (by decide)).len,(sm1000 (by decide)).len⟩
    have hf:=A12 @d36C.eq_1 @se0.eq_1 @nilE.eq_1 c1 c2 p1 p2 p3 p4 p5 p6 hu.one;refine wH ?_;(first|refine yN ?_|refine yM ?_);refine kS 12 (sml_ok 19 20 (by omega) (by omega) (by omega) (fun v7 v8 M7 g1 g2 g3 _ _=>sG ?_));all_goals clear hf
    have g1:Mem.le M6 M7:=g1
    have p7:=g2.one
    have p8:=g3.one
    have hf4:IsF M7 v7 v8 (ofN (red 19 20).1) (ofN (red 19 20).2):=isF_ofN g2 g3 ⟨(sm1000 (by decide)).len,(sm1000 (by decide)).len⟩
    refine wG (A12 @d36C.eq_1 @se0.eq_1 @nilE.eq_1 c1 c2 p1 p2 p3 p4 p5 p6 (A3 p7 p8 hu.one)) ?_
    exact ⟨d36E M7 u (p+1+1+1) wr wp v5 v6 v7 v8 mo,le_sub ⟨rfl,rfl,rfl,trivial⟩ ⟨rfl,rfl,rfl,trivial⟩ rfl rfl rfl (keepLt_of rfl),M7,v5,v6,v7,v8,red 1 20,red 19 20,_,e1.trans g1,hf3.le g1,hf4,hok3,hok4,by decide,by omega,rfl⟩
  ·clear p1 p2 p3 p4 hf hf2 hok hok2 hlt2 w2 w3 w5 w6
   rintro z ⟨M6,y1,y2,x1,x2,f,g,pp,m6,hy,hxF,hof,hog,hfg,hpp,rfl⟩
   have p1:=hy.n.one
   have p2:=hy.d.one
   have p3:=hxF.n.one
   have p4:=hxF.d.one
   have m36:=a1.trans (b1.trans m6)
   have hpl:∀x∈([2,3,5,10,20]:List Int),2≤x∧x≤20:=by decide
   have hf:=A11 @d36E.eq_1 @d36D.eq_1 @se0.eq_1 @nilE.eq_1 c1 c2 p1 p2 p3 p4 hu.one;refine wS ?_;refine yH 42 ?_;refine sF ?_;refine pick5k38_ok u l pp [2,3,5,10,20] rfl (hu3.le m36) (by omega) (fun x hx=>sG ?_);all_goals clear hf
   obtain ⟨x0,x3⟩:=hpl x (by assumption)
   obtain ⟨dd,rfl⟩:=Int.eq_ofNat_of_zero_le (show 0≤x by omega)
   have hok5:=redN_ok (n:=1) (d:=dd) (by omega) (by omega) (by omega)
   have hf:=A12 @d36D.eq_1 @se0.eq_1 @nilE.eq_1 c1 c2 p1 p2 p3 p4 hu.one @cE_ment (A2 @cE_kill @hasK_nil);refine wH ?_;(first|refine yN ?_|refine yM ?_);refine kS 12 (sml_ok 1 dd (by omega) (by omega) (by omega) (fun v9 v10 M7 g1 g2 g3 _ _=>sG ?_));all_goals clear hf
   have g1:Mem.le M6 M7:=g1
   have p7:=g2.one
   have p8:=g3.one
   have hf4:IsF M7 v9 v10 (ofN (red 1 dd).1) (ofN (red 1 dd).2):=isF_ofN g2 g3 ⟨(sm1000 (by have:=hok5.le1;omega)).len,(sm1000 (by have:=hok5.le1;omega)).len⟩
   have m37:=m36.trans g1
   obtain ⟨N,hN1,hN2⟩:=hD3.val
   have hNl:N.length=L.length:=by have h1:=congrArg List.length hN1;rw[List.length_map,List.length_map,hD3.len]at h1;omega
   have hk:=hK ⟨wr,wp,y1,y2,x1,x2,v9,v10,mo,.slice none 0 0,.slice none 0 0⟩ L D N f g (red 1 dd) (pp+1) M7 (by omega) (m03.trans m37) ⟨hv1.le m37,hcl,hu2.le m37,hD3.ok.le m37,hN1,hN2,hNl,hy.le g1,hxF.le g1,hf4,hof,hog,hok5,rfl,rfl⟩ (by omega) rfl rfl hfg hmo1.1 hmo1.2
   unfold SeV.v at hk
   refine wG (A12 @d36D.eq_1 @se0.eq_1 @nilE.eq_1 c1 c2 p1 p2 p3 p4 p7 p8 (A4 hu.one @cE_ment @cE_kill @hasK_nil)) ?_
   exact hk
end
section
variable {M:Mem}{K:AV→Hp→Mem→Prop}{v w:SeV}{l u:List Int}{P D:List FR}{fl dt d:LP}{b:List Bool}
def ssmA(M:Mem)(v w:SeV)(i:Nat):St:={env:=[(5,.ext (.int .i64 (i:Int))),(3,.own 3 0),(2,.own 2 0)],hp:=[(3,37,w.c),(2,37,v.c)],M:=M,kb:=0,fx:=[]}
def ssmB(M:Mem)(v w:SeV)(i:Nat):St:={env:=[(6,.ext (.int .i64 (i:Int))),(3,.own 3 0),(2,.own 2 0)],hp:=[(3,37,w.c),(2,37,v.c)],M:=M,kb:=0,fx:=[]}
theorem same36_ok(h:SeR M v l P fl dt d u b)(g:SeR M w l D fl dt d u b)(hD:D.map prV=P.map prV)(hm:w.most=v.most)(hK:K (.ext (.bool true)) [] M) :
  CallS Tryz.prog 16 [.ext v.v,.ext w.v] [] M [] K:=by
 have gl:D.length=P.length:=by have:=congrArg List.length hD;simpa using this
 refine inlS (cs:=[]) Tryz.mixed Tryz.func16 rfl (by kernel_rfl) 0 rfl rfl ?_
 simp only[Tryz.f16]
 dsimp only [List.append_eq,List.cons_append,List.nil_append]
 have oo:=h.ones
 have o2:=g.ones
 have n1:=h.p.len
 have s1:=h.p.sl
 have n2:=g.p.len
 have s2:=g.p.sl
 have n3:=h.f.len
 have s3:=h.f.sl
 have n4:=g.f.len
 have s4:=g.f.sl
 rw[gl]at n2
 have hpb:=h.pb
 have hfb:=h.fb
 have hlb:=h.lb
 have hqb:=h.qb
 have e1:decide (l=l)=true:=by simp
 have e2:decide (u=u)=true:=by simp
 have e3:decide ((P.length:Int)=(P.length:Int))=true:=by simp
 have e4:decide ((b.length:Int)=(b.length:Int))=true:=by simp
 have e5:decide (v.most=w.most)=true:=by rw[hm];simp
 have yb:=h.y.bn
 have yd:=h.y.bd
 have xb:=h.x.bn
 have xd:=h.x.bd
 have db:=h.d.bn
 have dd1:=h.d.bd
 have hf:=A12 @SeV.v.eq_1 oo o2 n1 s1 n2 s2 n3 s3 n4 s4 (A5 e1 e2 e3 e4 e5);refine sF ?_;(repeat' ((first|((with_reducible first|refine yN ?_|refine yM ?_);first|refine kS 48 (sameInts_ok v.ur w.ur l l h.r g.r (by omega) (by omega) ?_)|refine kS 48 (sameInts_ok v.uq w.uq u u h.q g.q (by omega) (by omega) ?_)|refine kS 30 (sameFrac_ok h.y.n h.y.d g.y.n g.y.d (by omega) (by omega) ?_)|refine kS 30 (sameFrac_ok h.x.n h.x.d g.x.n g.x.d (by omega) (by omega) ?_)|refine kS 30 (sameFrac_ok h.d.n h.d.d g.d.n g.d.d (by omega) (by omega) ?_))|refine oB ?_|fail)<;>refine sF ?_<;>try with_reducible exact tT))<;>try clear hf
 refine ⟨fun m z=>∃i,m=P.length-i∧i≤P.length∧z=ssmA M v w i,
  ⟨P.length,ssmA M v w 0,le_sub ⟨rfl,rfl,rfl,trivial⟩ ⟨rfl,rfl,trivial⟩ rfl rfl rfl (keepLt0 _),⟨0,by omega,by omega,rfl⟩⟩,?_⟩
 rintro m z ⟨i,rfl,hi,rfl⟩
 by_cases hlt:i<P.length
 case neg=>
  obtain rfl:i=P.length:=by omega
  have d1:decide ((P.length:Int)<(P.length:Int))=false:=by simp
  refine wT (A12 @ssmA.eq_1 @SeV.c.eq_1 d1 oo o2 n1 s1 n2 s2 n3 s3 (A2 n4 s4)) ?_
  refine ⟨fun m z=>∃i,m=b.length-i∧i≤b.length∧z=ssmB M v w i,
   ⟨b.length,ssmB M v w 0,le_sub ⟨rfl,rfl,rfl,trivial⟩ ⟨rfl,rfl,trivial⟩ rfl rfl rfl (keepLt0 _),⟨0,by omega,by omega,rfl⟩⟩,?_⟩
  rintro m z ⟨j,rfl,hj,rfl⟩
  by_cases hjt:j<b.length
  case neg=>
   obtain rfl:j=b.length:=by omega
   have d2:decide ((b.length:Int)<(b.length:Int))=false:=by simp
   refine wT (A12 @ssmB.eq_1 @SeV.c.eq_1 d2 oo o2 n1 s1 n2 s2 n3 s3 (A2 n4 s4)) ?_
   exact hK
  have d2:decide ((j:Int)<(b.length:Int))=true:=by rw[decide_eq_true_eq];omega
  have wj:IntKind.i64.wrap ((j:Int)+1)=((j+1:Nat):Int):=succ_i (by omega)
  have f1:=h.f.idx (P:=Tryz.prog) (T:=4) tk4 tz4 (by omega) hjt
  have f2:=g.f.idx (P:=Tryz.prog) (T:=4) tk4 tz4 (by omega) hjt
  generalize b[j]=bj at *
  have hbe:(bj==bj)=true:=by cases bj<;>rfl
  have hf:=A12 @ssmB.eq_1 @SeV.c.eq_1 d2 wj hbe f1 f2 oo o2 n1 s1 (A6 n2 s2 n3 s3 n4 s4);refine sF ?_;(repeat' ((first|((with_reducible refine isE 102 (by decide) ?_);refine dR [(0,[]),(1,[]),(2,[1]),(3,[]),(4,[]),(5,[1,4]),(6,[1,4]),(7,[1,4,6]),(8,[1,4]),(9,[1,4]),(10,[])] (rgL 102 10 []) [] ?_)|refine oB ?_|fail)<;>refine sF ?_<;>try with_reducible exact tT))<;>try clear hf
  exact ⟨b.length-(j+1),ssmB M v w (j+1),by omega,le_sub ⟨rfl,rfl,rfl,trivial⟩ ⟨rfl,rfl,trivial⟩ rfl rfl rfl (keepLt0 _),j+1,rfl,by omega,rfl⟩
 have d1:decide ((i:Int)<(P.length:Int))=true:=by rw[decide_eq_true_eq];omega
 have q1:(0:Int)≤(i:Int):=by omega
 have q2:(i:Int)<(P.length:Int):=by omega
 have wi:IntKind.i64.wrap ((i:Int)+1)=((i+1:Nat):Int):=succ_i (by omega)
 have k2:i<D.length:=by omega
 have nn1:=h.p.nn hlt
 have nn2:=g.p.nn k2
 have a1:=h.p.at (P:=Tryz.prog) (T:=32) (fun _=>rfl) tk32 tz32 hlt
 have a2:=g.p.at (P:=Tryz.prog) (T:=32) (fun _=>rfl) tk32 tz32 k2
 have f1:=h.o _ (List.getElem_mem hlt)
 have f2:=g.o _ (List.getElem_mem k2)
 have e:prV D[i]=prV P[i]:=by
  have:=congrArg (fun X=>X[i]?) hD
  simp only[List.getElem?_map,List.getElem?_eq_getElem k2,List.getElem?_eq_getElem hlt,Option.map_some]at this
  exact Option.some.inj this
 generalize P[i]=X at *
 generalize D[i]=Y at *
 obtain ⟨x1,x2,y1,y2⟩:=X
 obtain ⟨z1,z2,w1,w2⟩:=Y
 unfold prV at e
 simp only[Prod.mk.injEq]at e
 obtain ⟨rfl,rfl⟩:=e
 have a1:lookM Tryz.prog 32 M (elemP v.up 2 i)=some (.agg #[x1,x2]):=a1
 have a2:lookM Tryz.prog 32 M (elemP w.up 2 i)=some (.agg #[z1,z2]):=a2
 have f1:IsF M x1 x2 w1 w2:=f1
 have f2:IsF M z1 z2 w1 w2:=f2
 have p1:=f1.n.one
 have p2:=f1.d.one
 have p3:=f2.n.one
 have p4:=f2.d.one
 have bn:=f1.bn
 have bd:=f1.bd
 have hf:=A12 @ssmA.eq_1 @SeV.c.eq_1 d1 q1 q2 wi nn1 nn2 a1 a2 oo (A9 o2 n1 s1 n2 s2 p1 p2 p3 p4);refine sF ?_;(repeat' ((first|((with_reducible refine yM ?_);refine kS 30 (sameFrac_ok f1.n f1.d f2.n f2.d (by omega) (by omega) ?_))|((with_reducible refine isE 83 (by decide) ?_);refine dR [(0,[]),(1,[]),(2,[1]),(3,[]),(4,[]),(5,[1,4]),(6,[1,4]),(7,[1,4,6]),(8,[1,4]),(9,[1,4]),(10,[]),(11,[])] (rgL 83 10 []) [] ?_)|refine oB ?_|fail)<;>refine sF ?_<;>try with_reducible exact tT))<;>try clear hf
 exact ⟨P.length-(i+1),ssmA M v w (i+1),by omega,le_sub ⟨rfl,rfl,rfl,trivial⟩ ⟨rfl,rfl,trivial⟩ rfl rfl rfl (keepLt0 _),i+1,rfl,by omega,rfl⟩
end
set_option exponentiation.threshold 5000
theorem SeI.chk{M:Mem}{v:SeV}{l:List Int}{P:List FR}{N:List (Nat×Nat)}{f g dl:Nat×Nat}(h:SeI M v l P N f g dl)(hfg:f.1*g.2<g.1*f.2){most:Int}(h1:1≤most)(h16:most≤16):chkC l P (opN f) (opN g) (opN dl) most=0:=by
 have hX:=newB_X h.c h.nl h.n h.no
 have hn:noiF (opN f).1 (opN f).2 (opN g).1 (opN g).2=true:=noiF_N h.fo h.go hfg
 have hi:innF (opN dl).1 (opN dl).2=true:=h.do_.innF
 unfold chkC
 rw[hX,hn,hi]
 simp only[if_true]
 rw[if_neg (by omega)]
theorem SeI.plen{M:Mem}{v:SeV}{l:List Int}{P:List FR}{N:List (Nat×Nat)}{f g dl:Nat×Nat}(h:SeI M v l P N f g dl):P.length=l.length:=by
 have h1:=congrArg List.length h.n
 have h2:=h.nl
 simp only[List.length_map]at h1
 omega
theorem SeI.rr{M:Mem}{v:SeV}{l:List Int}{P:List FR}{N:List (Nat×Nat)}{f g dl:Nat×Nat}(h:SeI M v l P N f g dl)(hq:v.uq=.slice none 0 0)(hf:v.uf=.slice none 0 0):SeR M v l P (opN f) (opN g) (opN dl) [] []:=by
 have h1:=h.plen
 have h8:=(chk_len h.c).2
 exact ⟨h.r,h.p,h.o,h.y,h.x,h.d,by omega,by omega,by rw[hq];exact isL_nil _ _ _,by rw[hf];exact isL_nil _ _ _,by simp,by simp⟩
section
variable {M:Mem}{K:AV→Hp→Mem→Prop}
end
theorem FrzF.rng36{K:AV→Hp→Mem→Prop}{H H2:Hp}{M':Mem}{k n:Nat}{T:TypeId}(cs:List Value)(h1:lkH H k=none)(h2:cs.length=n)(h3:hasK k (mentH H2)=false)(h4:lkH H2 k=none)(h:∀u M'',Mem.le M' M''→SlM M'' 1 u n cs→FreshS M' u→K (.ext (.agg #[u])) H2 M''):FrzF K H (.ag false [.slo k 0 n 1]) ((k,T,cs.map .ext) :: H2) M':=
 .inr ⟨some false,[],[],k,n,1,T,cs,H2,rfl,rfl,h4,h1,by omega,by simpa [mentL] using h3,h⟩
theorem okH2:OkN (1,2):=⟨by decide,by decide,by decide,by decide⟩
theorem okT1:OkN (1,10):=⟨by decide,by decide,by decide,by decide⟩
theorem okT9:OkN (9,10):=⟨by decide,by decide,by decide,by decide⟩
section
variable {M:Mem}{K:AV→Hp→Mem→Prop}
theorem plain36_frz(n:Nat)(hn:n≤100)(hK:∀u M',Mem.le M M'→IsL M' intV64 u (List.replicate n (-1))→FreshS M u→K (.ext (.agg #[u])) [] M'):CallS Tryz.prog 20 [.ext (.int .i64 (n:Int))] [] M [] K:=by
 refine CallS.frzF (plain36_ok n hn ?_)
 refine FrzF.rng36 ((List.replicate n (-1)).map intV64) rfl (by simp) rfl rfl (fun u M'' hM hs hf=>hK u M'' hM ?_ hf)
 unfold IsL
 rw[List.length_replicate];exact hs
theorem sml36_ok(n d:Nat)(hn:0<n)(hd:0<d)(hd2:d≤1000)(hn2:n≤1000)(hg:Nat.gcd n d=1)(hK:∀w1 w2 M',Mem.le M M'→IsF M' w1 w2 (ofN n) (ofN d)→K (.ext (.agg #[w1,w2])) [] M'):CallS Tryz.prog 12 [.ext (.int .i64 (n:Int)),.ext (.int .i64 (d:Int))] [] M [] K:=
 sml_ok n d (by omega) (by omega) (by omega) fun w1 w2 M' a1 a2 a3 _ _=>hK w1 w2 M' a1 (by
  rw[hg,Nat.div_one]at a2 a3
  exact isF_ofN a2 a3 ⟨(sm1000 (by omega)).len,(sm1000 (by omega)).len⟩)
def known36X:List Nat:=[1,1,1]
theorem known36_start:startX [-1,-1] [(1,2),(1,2)]=known36X:=by decide +kernel
theorem known36_next:nextX [-1,-1] (setsL [-1,-1] 2) (1,10) 3 known36X 0=(1,0):=by decide +kernel
theorem known36_red:qX known36X=[(1,3),(1,3),(1,3)]:=by decide +kernel
theorem known36_ok(hK:∀M',Mem.le M M'→K (.ext (.bool true)) [] M'):CallS Tryz.prog 18 [] [] M [] K:=by
 refine inlS (cs:=[]) Tryz.mixed Tryz.func18 rfl (by kernel_rfl) 0 rfl rfl ?_
 simp only[Tryz.f18]
 refine sU ?_;(repeat' ((first|((with_reducible first|refine yN ?_|refine yM ?_);refine kS 12 (sml36_ok 1 2 (by decide) (by decide) (by decide) (by decide) (by decide) (fun v1 v2 M1 m1 f1=>Stop.mk ?_)))|refine oB ?_|fail)<;>refine sU ?_<;>try with_reducible exact tT))
 have m1:Mem.le M M1:=m1
 have p1:=f1.n.one
 have p2:=f1.d.one
 refine Stop.go ?_
 have hf:=A2 p1 p2;refine sF ?_;(repeat' ((first|((with_reducible refine yM ?_);refine kS 20 (plain36_frz 2 (by decide) (fun u M2 m2 a2 _=>Stop.mk ?_)))|((with_reducible refine isE 10 (by decide) ?_);refine dR ((1,[]) :: (2,[1]) :: (3,[]) :: (12,[1,2]) :: (0,[1,2]) :: (rP 4 4 [1,2] (rP 8 4 [] [(13,[]),(14,[])]))) (2 :: (rgL 9 12 [])) [] ?_)|refine oB ?_|fail)<;>refine sF ?_<;>try with_reducible exact tT))<;>try clear hf
 have m2:Mem.le M1 M2:=m2
 have a2:IsL M2 intV64 u [-1,-1]:=a2
 have p3:=a2.one
 have f2:=f1.le m2
 have hok:okFL M2 [⟨v1,v2,ofN 1,ofN 2⟩,⟨v1,v2,ofN 1,ofN 2⟩]:=fun x hx=>by
  rcases List.mem_cons.1 hx with h|hx
  ·rw[h];exact f2
  ·rw[List.mem_singleton.1 hx];exact f2
 refine Stop.go ?_
 have hf:=A3 p1 p2 p3;refine sF ?_;(repeat' ((first|((with_reducible first|refine yN ?_|refine yM ?_);refine kS 12 (sml36_ok 1 10 (by decide) (by decide) (by decide) (by decide) (by decide) (fun y1 y2 M3 m3 f3=>Stop.mk ?_)))|((with_reducible refine isE 10 (by decide) ?_);refine dR ((1,[]) :: (2,[1]) :: (3,[]) :: (12,[1,2]) :: (0,[1,2]) :: (rP 4 4 [1,2] (rP 8 4 [] [(13,[]),(14,[])]))) (2 :: (rgL 9 12 [])) [] ?_)|refine oB ?_|fail)<;>refine sF ?_<;>try with_reducible exact tT))<;>try clear hf
 have m3:Mem.le M2 M3:=m3
 have p4:=f3.n.one
 have p5:=f3.d.one
 refine Stop.go ?_
 have hf:=A5 p1 p2 p3 p4 p5;refine sF ?_;(repeat' ((first|((with_reducible first|refine yN ?_|refine yM ?_);refine kS 12 (sml36_ok 9 10 (by decide) (by decide) (by decide) (by decide) (by decide) (fun x1 x2 M4 m4 f4=>Stop.mk ?_)))|((with_reducible refine isE 10 (by decide) ?_);refine dR ((1,[]) :: (2,[1]) :: (3,[]) :: (12,[1,2]) :: (0,[1,2]) :: (rP 4 4 [1,2] (rP 8 4 [] [(13,[]),(14,[])]))) (2 :: (rgL 9 12 [])) [] ?_)|refine oB ?_|fail)<;>refine sF ?_<;>try with_reducible exact tT))<;>try clear hf
 have m4:Mem.le M3 M4:=m4
 have p6:=f4.n.one
 have p7:=f4.d.one
 refine Stop.go ?_
 have hf:=A7 p1 p2 p3 p4 p5 p6 p7;refine sF ?_;(repeat' ((first|((with_reducible first|refine yN ?_|refine yM ?_);refine kS 12 (sml36_ok 1 10 (by decide) (by decide) (by decide) (by decide) (by decide) (fun d1 d2 M5 m5 f5=>Stop.mk ?_)))|((with_reducible refine isE 10 (by decide) ?_);refine dR ((1,[]) :: (2,[1]) :: (3,[]) :: (12,[1,2]) :: (0,[1,2]) :: (rP 4 4 [1,2] (rP 8 4 [] [(13,[]),(14,[])]))) (2 :: (rgL 9 12 [])) [] ?_)|refine oB ?_|fail)<;>refine sF ?_<;>try with_reducible exact tT))<;>try clear hf
 have m5:Mem.le M4 M5:=m5
 have p8:=f5.n.one
 have p9:=f5.d.one
 have m25:=m3.trans (m4.trans m5)
 have hR:SeR M5 ⟨u,.slice none 0 0,y1,y2,x1,x2,d1,d2,3,.slice none 0 0,.slice none 0 0⟩ [-1,-1] [] (opN (1,10)) (opN (9,10)) (opN (1,10)) [] []:=
  ⟨a2.le m25,slM_empty M5 2 none 0,(fun x hx=>by cases hx),f3.le (m4.trans m5),f4.le m5,f5,by decide,by decide,isL_nil _ _ _,isL_nil _ _ _,by decide,by decide⟩
 have hcl:chkL [-1,-1]=true:=by decide
 have hno:∀q∈[((1:Nat),(2:Nat)),(1,2)],OkN q:=fun q hq=>by
  rcases List.mem_cons.1 hq with h|hq
  ·rw[h];exact okH2
  ·rw[List.mem_singleton.1 hq];exact okH2
 have hck:chkC [-1,-1] [⟨v1,v2,ofN 1,ofN 2⟩,⟨v1,v2,ofN 1,ofN 2⟩] (opN (1,10)) (opN (9,10)) (opN (1,10)) 3=0:=by
  have hX:=newB_X (P:=[⟨v1,v2,ofN 1,ofN 2⟩,⟨v1,v2,ofN 1,ofN 2⟩]) (N:=[(1,2),(1,2)]) hcl rfl rfl hno
  have hn:noiF (opN (1,10)).1 (opN (1,10)).2 (opN (9,10)).1 (opN (9,10)).2=true:=noiF_N okT1 okT9 (by decide)
  have hi:innF (opN (1,10)).1 (opN (1,10)).2=true:=okT1.innF
  unfold chkC
  rw[hX,hn,hi]
  rfl
 have e1:frC [(⟨v1,v2,ofN 1,ofN 2⟩:FR),⟨v1,v2,ofN 1,ofN 2⟩]=[.ext v1,.ext v2,.ext v1,.ext v2]:=rfl
 refine Stop.go ?_
 have hf:=A9 p1 p2 p3 p4 p5 p6 p7 p8 p9;refine sF ?_;(repeat' ((first|((with_reducible first|refine yB ?_|refine yC ?_);first|refine kG 14 ?_|refine kS 14 (cnew_bor (v:=⟨u,.slice none 0 0,y1,y2,x1,x2,d1,d2,3,.slice none 0 0,.slice none 0 0⟩) (P:=[⟨v1,v2,ofN 1,ofN 2⟩,⟨v1,v2,ofN 1,ofN 2⟩]) 13 2 _ rfl hR (hok.le m25) (show 2<1000000 by decide) hck (fun w D M6 m6 hD hwm hRw=>Stop.mk ?_)))|((with_reducible refine isE 10 (by decide) ?_);refine dR ((1,[]) :: (2,[1]) :: (3,[]) :: (12,[1,2]) :: (0,[1,2]) :: (rP 4 4 [1,2] (rP 8 4 [] [(13,[]),(14,[])]))) (2 :: (rgL 9 12 [])) [] ?_)|refine oB ?_|fail)<;>refine sF ?_<;>try with_reducible exact tT))<;>try clear hf
 have m6:Mem.le M5 M6:=m6
 have oo:=hRw.ones
 have hwm:w.most=3:=hwm
 have hDN:D.map numF=[(1,2),(1,2)]:=map_num (hD.trans rfl)
 have hck2:chkC [-1,-1] D (opN (1,10)) (opN (9,10)) (opN (1,10)) w.most=0:=by rw[hwm];exact (chkC_cong hD).trans hck
 have hpl:playS [-1,-1] D (opN (1,10)) (opN (9,10)) (opN (1,10)) w.most [] []=some known36X:=by
  unfold playS
  rw[if_pos ⟨hck2,rfl,by rw[hwm];decide⟩,hDN,known36_start]
  rfl
 have hnx:nextX [-1,-1] (setsL [-1,-1] 2) (numL (opN (1,10))) w.most known36X 0=(1,0):=by
  rw[numL_opN,hwm];exact known36_next
 have hn1:=congrArg Prod.fst hnx
 have hn2:=congrArg Prod.snd hnx
 have hf:=A5 e1 @SeV.v.eq_1 p1 p2 oo;refine wH ?_;refine kN 22 (cNext_ok hRw (fun hp=>absurd (hpl.symm.trans hp) (by simp)) (fun X M7 hp m7=>sG ?_));all_goals clear hf
 have m7:Mem.le M6 M7:=m7
 cases hpl.symm.trans hp
 have hf:=A5 hn1 hn2 p1 p2 oo;refine wH ?_;refine kN 21 (cBelief_ok (hRw.le m7) (fun hp=>absurd (hpl.symm.trans hp) (by simp)) (fun X wr ws ww M8 hp m8 hB _ _=>sG ?_));all_goals clear hf
 have m8:Mem.le M7 M8:=m8
 cases hpl.symm.trans hp
 have c1:=hB.l.one
 have c2:=hB.s.one
 have c3:=hB.q.one
 obtain ⟨L,l1,l2,l3⟩:=hB.q
 rw[known36_red]at l3
 have hlL:L.length=3:=by have:=congrArg List.length l3;simpa using this
 have n7:=l1.len
 have s7:=l1.sl
 rw[hlL]at n7
 have k0:2<L.length:=by omega
 have nn:=l1.nn k0
 have at0:=l1.at (P:=Tryz.prog) (T:=32) (fun _=>rfl) tk32 tz32 k0
 have fz:=l2 _ (List.getElem_mem k0)
 have ez:prV L[2]=(ofN 1,ofN 3):=by
  have:=congrArg (fun t=>t[2]?) l3
  simp only[List.getElem?_map,List.getElem?_eq_getElem k0,Option.map_some]at this
  exact Option.some.inj this
 generalize L[2]=X at *
 obtain ⟨z1,z2,w1,w2⟩:=X
 unfold prV at ez
 simp only[Prod.mk.injEq]at ez
 obtain ⟨rfl,rfl⟩:=ez
 have at0:lookM Tryz.prog 32 M8 (elemP ww 2 2)=some (.agg #[z1,z2]):=at0
 have fz:IsF M8 z1 z2 (ofN 1) (ofN 3):=fz
 have r1:=fz.n.one
 have r2:=fz.d.one
 have ln1:(ofN 1).length<1000000000:=by have:=ofN1_len;omega
 have ln3:(ofN 3).length<1000000000:=by have:=(sm1000 (n:=3) (by omega)).len;omega
 have m08:Mem.le M M8:=m1.trans (m2.trans (m25.trans (m6.trans (m7.trans m8))))
 refine Stop.go ?_
 have hf:=A12 p1 p2 oo c1 c2 c3 n7 s7 nn at0 r1 r2;refine sF ?_;(repeat' ((first|((with_reducible first|refine yN ?_|refine yM ?_);refine kS 12 (sml36_ok 1 3 (by decide) (by decide) (by decide) (by decide) (by decide) (fun b1 b2 M9 m9 f9=>Stop.mk ?_)))|((with_reducible refine isE 31 (by decide) ?_);refine dR (rP 0 25 [] ((25,[22,24]) :: (rP 26 3 [] []))) (rgL 52 5 []) [] ?_)|refine oB ?_|fail)<;>refine sF ?_<;>try with_reducible exact tT))<;>try clear hf
 have m9:Mem.le M8 M9:=m9
 have r3:=f9.n.one
 have r4:=f9.d.one
 have hk:=hK M9 (m08.trans m9)
 have fz9:=fz.le m9
 refine Stop.go ?_
 have hf:=A12 p1 p2 oo c1 c2 c3 n7 s7 r1 r2 r3 r4;refine sF ?_;(repeat' ((first|((with_reducible refine yM ?_);refine kS 30 (sameFrac_ok fz9.n fz9.d f9.n f9.d ln1 ln3 (Stop.mk ?_)))|((with_reducible refine isE 31 (by decide) ?_);refine dR (rP 0 25 [] ((25,[22,24]) :: (rP 26 3 [] []))) (rgL 52 5 []) [] ?_)|refine oB ?_|fail)<;>refine sF ?_<;>try with_reducible exact tT))<;>try clear hf
 refine Stop.go ?_
 have hf:=A12 p1 p2 oo c1 c2 c3 n7 s7 r1 r2 r3 r4;refine sF ?_;(repeat' ((first|((with_reducible refine isE 31 (by decide) ?_);refine dR (rP 0 25 [] ((25,[22,24]) :: (rP 26 3 [] []))) (rgL 52 5 []) [] ?_)|refine oB ?_|fail)<;>refine sF ?_<;>try with_reducible exact tT))<;>try clear hf
 exact hk
end
section
variable {M:Mem}{K:AV→Hp→Mem→Prop}{v:SeV}{l u:List Int}{P:List FR}{fl dt d:LP}{b:List Bool}
end
theorem playS_begin{l:List Int}{P:List FR}{fl dt d:LP}{most:Int}(h:chkC l P fl dt d most=0)(h0:0≤most):playS l P fl dt d most [] []=some (startX l (P.map numF)):=by
 unfold playS
 rw[if_pos ⟨h,rfl,by simpa using h0⟩]
 rfl
theorem playX_snoc{l:List Int}{s:List Nat}{f g dl:Nat×Nat}{most:Int}{p:Int}{b:Bool}:∀(r:List (Int×Bool)) (n:Nat) (X Y:List Nat),playX l s f g dl most r n X=some Y→nextX l s dl most Y (n+r.length)=(p,0)→playX l s f g dl most (r++[(p,b)]) n X=some (afterX l p b f g Y s)
 | [],n,X,Y,h,hn=>by
  simp only[playX,Option.some.injEq]at h
  subst h
  rw[List.length_nil,Nat.add_zero]at hn
  rw[List.nil_append,playX,if_pos hn]
  rfl
 | (q,c) :: r,n,X,Y,h,hn=>by
  rw[playX]at h
  rw[List.cons_append,playX]
  split at h
  ·rename_i hq
   rw[if_pos hq]
   exact playX_snoc r (n+1) _ Y h (by rw[List.length_cons]at hn;rw[show n+1+r.length=n+(r.length+1) by omega];exact hn)
  ·cases h
theorem playS_snoc{l u:List Int}{P:List FR}{fl dt d:LP}{most p:Int}{b:List Bool}{X:List Nat}{q:Bool}(h:playS l P fl dt d most u b=some X)(hn:nextX l (setsL l 2) (numL d) most X u.length=(p,0))(hlt:(u.length:Int)<most):playS l P fl dt d most (u++[p]) (b++[q])=some (afterX l p q (numL fl) (numL dt) X (setsL l 2)):=by
 unfold playS at h ⊢
 by_cases hh:chkC l P fl dt d most=0∧u.length=b.length∧(u.length:Int)≤most
 ·rw[if_pos hh]at h
  rw[if_pos ⟨hh.1,by rw[List.length_append,List.length_append,hh.2.1];rfl,by rw[List.length_append,List.length_singleton];omega⟩,List.zip_append hh.2.1]
  refine playX_snoc _ 0 _ _ h ?_
  rw[List.length_zip,←hh.2.1,Nat.min_self,Nat.zero_add]
  exact hn
 ·rw[if_neg hh]at h;cases h
theorem playS_len{l u:List Int}{P:List FR}{fl dt d:LP}{most:Int}{b:List Bool}{X:List Nat}(h:playS l P fl dt d most u b=some X):u.length=b.length∧(u.length:Int)≤most:=by
 unfold playS at h
 by_cases hh:chkC l P fl dt d most=0∧u.length=b.length∧(u.length:Int)≤most
 ·exact hh.2
 ·rw[if_neg hh]at h;cases h
section
variable {M:Mem}{K:AV→Hp→Mem→Prop}{ur us uw:Value}{l:List Int}{X:List Nat}{bb:Nat}
end
structure PlyI (M:Mem) (w:SeV) (L:List Int) (D:List FR) (N:List (Nat×Nat)) (f g dl:Nat×Nat) (most:Int) (u:List Int) (b:List Bool) (X:List Nat):Prop where
 r:SeR M w L D (opN f) (opN g) (opN dl) u b
 n:D.map prV=N.map opN
 m:w.most=most
 p:playS L D (opN f) (opN g) (opN dl) most u b=some X
theorem PlyI.le{M M':Mem}{w:SeV}{L:List Int}{D:List FR}{N:List (Nat×Nat)}{f g dl:Nat×Nat}{most:Int}{u:List Int}{b:List Bool}{X:List Nat}(h:PlyI M w L D N f g dl most u b X)(hM:Mem.le M M'):PlyI M' w L D N f g dl most u b X:=⟨h.r.le hM,h.n,h.m,h.p⟩
theorem PlyI.snoc{M M':Mem}{w w':SeV}{L:List Int}{D D':List FR}{N:List (Nat×Nat)}{f g dl:Nat×Nat}{most p:Int}{u:List Int}{b:List Bool}{X:List Nat}{q:Bool}(h:PlyI M w L D N f g dl most u b X)(hn:nextX L (setsL L 2) dl most X u.length=(p,0))(hlt:(u.length:Int)<most)(hD:D'.map prV=D.map prV)(hm:w'.most=w.most)(hR:SeR M' w' L D' (opN f) (opN g) (opN dl) (u++[p]) (b++[q])):PlyI M' w' L D' N f g dl most (u++[p]) (b++[q]) (afterX L p q f g X (setsL L 2)):=
 ⟨hR,hD.trans h.n,hm.trans h.m,by
  have h1:=playS_snoc (q:=q) h.p (by rw[numL_opN];exact hn) hlt
  rw[numL_opN,numL_opN]at h1
  rw[playS_cong hD]
  exact h1⟩
theorem fnd_setB:∀n,n<4→∀i,i<3→∀j,j<3→(n≤i∨n≤j∨(setsL (List.replicate n (-1)) 2).contains (2^i ||| 2^j)=true):=by decide +kernel
theorem fnd_set{n i j:Nat}(hn:n≤3)(hi:i<n)(hj:j<n):(2^i ||| 2^j)∈setsL (List.replicate n (-1)) 2:=by
 rcases fnd_setB n (by omega) i (by omega) j (by omega) with h|h|h
 ·omega
 ·omega
 ·exact List.contains_iff_mem.1 h
theorem fnd_chk:∀n,n<4→1≤n→chkL (List.replicate n (-1))=true:=by decide +kernel
theorem fnd_lt:∀i,i<3→∀j,j<3→(2^i ||| 2^j)<256:=by decide +kernel
theorem fnd_ok1:OkN (1,100):=⟨by decide,by decide,by decide,by decide⟩
theorem fnd_ok99:OkN (99,100):=⟨by decide,by decide,by decide,by decide⟩
theorem pair_le:∀{X:List Nat} {i j:Nat},i<X.length→j<X.length→i<j→X.getD i 0+X.getD j 0≤lsum X
 | x :: r,0,j+1,_,hj,_=>by
  rw[lsum,List.getD_cons_zero,List.getD_cons_succ]
  have:=getD_le (X:=r) (N:=lsum r) (k:=j) fun _ hx=>lsum_mem hx
  omega
 | x :: r,i+1,j+1,hi,hj,h=>by
  rw[lsum,List.getD_cons_succ,List.getD_cons_succ]
  have:=pair_le (X:=r) (i:=i) (j:=j) (by simpa using hi) (by simpa using hj) (by omega)
  omega
theorem pair_ne{X:List Nat}{i j:Nat}(hi:i<X.length)(hj:j<X.length)(h:i≠j):X.getD i 0+X.getD j 0≤lsum X:=by
 rcases Nat.lt_or_gt_of_ne h with h|h
 ·exact pair_le hi hj h
 ·rw[Nat.add_comm];exact pair_le hj hi h
theorem fnd_mul{eff:Nat}{f g:Nat×Nat}{c:Nat}(h1:f.1*g.2≤c)(h2:g.1*f.2≤c):∀(X S:List Nat),lsum (mulX eff f g X S)≤lsum X*c
 | [],_=>by rw[mulX]<;>simp[lsum]
 | _ :: _,[]=>by rw[mulX]<;>simp[lsum]
 | x :: r,s :: t=>by
  rw[mulX,lsum,lsum,Nat.add_mul]
  have ih:=fnd_mul (eff:=eff) h1 h2 r t
  have e1:x*f.1*g.2≤x*c:=by rw[Nat.mul_assoc];exact Nat.mul_le_mul_left _ h1
  have e2:x*g.1*f.2≤x*c:=by rw[Nat.mul_assoc];exact Nat.mul_le_mul_left _ h2
  split<;>omega
theorem fnd_le{l:List Int}{p:Int}{q:Bool}{X s:List Nat}:lsum (afterX l p q (1,100) (99,100) X s)≤lsum X*9900:=by
 unfold afterX
 cases q<;>exact fnd_mul (by decide) (by decide) _ _
theorem fnd_get{l:List Int}{p:Int}{q:Bool}{X s:List Nat}{k:Nat}(hk:k<X.length)(hs:k<s.length)(h:X.length=s.length)(hq:q = !decide (((effN l p.toNat &&& s[k]:Nat):Int)=0)):(afterX l p q (1,100) (99,100) X s).getD k 0=X.getD k 0*9900:=by
 rw[after_get hk hs h]
 by_cases h0:effN l p.toNat &&& s[k]=0
 ·rw[if_pos h0]
  have:q=false:=by rw[hq,h0];rfl
  subst this
  show X.getD k 0*99*100=_
  omega
 ·rw[if_neg h0]
  have:q=true:=by rw[hq,decide_eq_false (by omega)];rfl
  subst this
  show X.getD k 0*99*100=_
  omega
def fndR(X0 X:List Nat)(k:Nat):Prop:=X0.getD k 0*lsum X≤X.getD k 0*lsum X0
theorem fndR.step{l:List Int}{p:Int}{q:Bool}{X0 X s:List Nat}{k:Nat}(hR:fndR X0 X k)(hk:k<X.length)(hs:k<s.length)(h:X.length=s.length)(hq:q = !decide (((effN l p.toNat &&& s[k]:Nat):Int)=0)):fndR X0 (afterX l p q (1,100) (99,100) X s) k:=by
 unfold fndR at hR ⊢
 rw[fnd_get hk hs h hq]
 have h1:=Nat.mul_le_mul_left (X0.getD k 0) (fnd_le (l:=l) (p:=p) (q:=q) (X:=X) (s:=s))
 have h2:=Nat.mul_le_mul_right 9900 hR
 rw[←Nat.mul_assoc]at h1
 have e1:X.getD k 0*9900*lsum X0=X.getD k 0*lsum X0*9900:=Nat.mul_right_comm _ _ _
 rw[e1]
 exact Nat.le_trans h1 h2
theorem fnd_end{X0 X:List Nat}{k:Nat}{dl:Nat×Nat}(hR:fndR X0 X k)(hd:decX dl X=true)(hk:k<X.length)(hne:bestN X X.length≠k)(h0:0<lsum X)(hl:dl.1≤dl.2):X0.getD k 0*dl.2≤dl.1*lsum X0:=by
 unfold decX at hd
 have hd:=of_decide_eq_true hd
 have hb:=bestN_lt X X.length (by omega)
 have hp:=pair_ne hb hk hne
 unfold fndR at hR
 unfold topX at hd
 generalize X.getD (bestN X X.length) 0=t at *
 generalize X.getD k 0=x at *
 generalize X0.getD k 0=x0 at *
 generalize lsum X=S at *
 generalize lsum X0=S0 at *
 obtain ⟨a,b⟩:=dl
 simp only at *
 have e1:x*b≤a*S:=by
  have h1:(t+x)*b≤S*b:=Nat.mul_le_mul_right _ hp
  rw[Nat.add_mul]at h1
  rw[Nat.mul_comm (b-a),Nat.mul_sub]at hd
  have h2:S*a≤S*b:=Nat.mul_le_mul_left _ hl
  rw[Nat.mul_comm a]
  omega
 have e2:(x0*b)*S≤(a*S0)*S:=by
  calc (x0*b)*S=(x0*S)*b:=by rw[Nat.mul_right_comm]
   _≤(x*S0)*b:=Nat.mul_le_mul_right _ hR
   _=(x*b)*S0:=by rw[Nat.mul_right_comm]
   _≤(a*S)*S0:=Nat.mul_le_mul_right _ e1
   _=(a*S0)*S:=by rw[Nat.mul_right_comm]
 exact Nat.le_of_mul_le_mul_right e2 h0
theorem fnd_cmp{X0:List Nat}{k:Nat}{dl:Nat×Nat}(h:X0.getD k 0*dl.2≤dl.1*lsum X0)(h0:0<lsum X0)(hs:Sm (lsum X0))(hd:OkN dl):decide (0≤cmpF (ofN dl.1) (ofN dl.2) (ofN (red (X0.getD k 0) (lsum X0)).1) (ofN (red (X0.getD k 0) (lsum X0)).2))=true:=by
 obtain ⟨a1,a2,a3,a4⟩:=hd.sm
 have e:=red_okn hd
 have hc:=cmp_red (x:=dl.1) (d:=dl.2) (y:=X0.getD k 0) (e:=lsum X0) a2 h0 a3 a4 (hs.le (getD_le fun _ hx=>lsum_mem hx)) hs
 rw[e]at hc
 rw[hc]
 exact decide_eq_true (cmpN_nn.2 h)
section
variable {M:Mem}{K:AV→Hp→Mem→Prop}{v:SeV}{l u:List Int}{P:List FR}{fl dt d:LP}{b:List Bool}
theorem cloneO_ok(u:Value)(l:List Int)(hu:IsL M intV64 u l)(hb:l.length<1000000000)(h0:0<l.length)(hK:K (.slo 305 0 l.length 1) [(305,3,cE intV64 l)] M):CallS Tryz.prog 50 [.ext u] [] M [] K:=by
 refine inlS (cs:=[]) Tryz.mixed Tryz.func50 rfl (by kernel_rfl) 300 rfl rfl ?_
 simp only[Tryz.f50]
 have hn:=hu.nn h0
 have hrow:=hu.row
 have h1:List.map AV.ext (List.map intV64 l)=cE intV64 l:=rfl
 have a1:allOne (cE intV64 l)=True:=eq_true (allOne_cE intV64 (fun _=>rfl) l)
 have a2:(l.length*8≤140737488355328)=True:=eq_true (by omega)
 have a3:(l.length≤maxLen)=True:=eq_true (by unfold maxLen;omega)
 refine wT (A12 hn hu.one hu.sl hu.len hrow h1 a1 a2 a3 @cE_ment @cE_kill (A3 @cE_len @hasK_nil @Nat.mul_one)) ?_
 exact hK
def cpO(v:SeV)(nl:Nat):List AV:=[.slo 305 0 nl 1,.ext v.up,.ext v.y1,.ext v.y2,.ext v.x1,.ext v.x2,.ext v.d1,.ext v.d2,.ext (.int .i64 v.most),.ext v.uq,.ext v.uf]
def copO(M:Mem)(v:SeV)(l:List Int)(n i:Nat)(D:List FR):St:={env:=[(21,.ext (.int .i64 (i:Int))),(20,.ext (.int .i64 (n:Int))),(19,.ext v.up),(3,.slo 17 0 n 2),(2,.own 2 0),(1,.own 1 0)],hp:=[(17,32,frC (D++List.replicate (n-i) zFR)),(2,37,se0),(1,37,cpO v l.length),(305,3,cE intV64 l)],M:=M,kb:=0,fx:=[]}
theorem ccopiedO_ok(h:SeR M v l P fl dt d u b)(z2:u.length=b.length)(h0:0<l.length)
  (hK:∀(w:SeV) D M',Mem.le M M'→w.most=v.most→IsR M' 2 FR.c w.up D→okFL M' D→D.map prV=P.map prV→IsF M' w.y1 w.y2 fl.1 fl.2→IsF M' w.x1 w.x2 dt.1 dt.2→IsF M' w.d1 w.d2 d.1 d.2→K (.ag false ([.slo 305 0 l.length 1,.ext w.up,.ext w.y1,.ext w.y2,.ext w.x1,.ext w.x2,.ext w.d1,.ext w.d2,.ext (.int .i64 v.most),.slo 51 0 u.length 1,.slo 55 0 b.length 1])) [(55,4,cE Value.bool b),(51,3,cE intV64 u),(305,3,cE intV64 l)] M') :
  CallS Tryz.prog 44 [.ext v.v] [] M [] K:=by
 refine inlS (cs:=[8]) Tryz.mixed Tryz.func44 rfl (by kernel_rfl) 0 rfl rfl ?_
 simp only[Tryz.f44]
 have oo:=h.ones
 have n2:=h.p.len
 have s2:=h.p.sl
 have pb:=h.pb
 have hf:=A5 @SeV.v.eq_1 oo @cE_ment @cE_kill @hasK_nil;refine wS ?_;refine kN 50 (cloneO_ok v.ur l h.r (by have:=h.lb;omega) h0 (sG ?_));all_goals clear hf
 have m1:Mem.le M M:=Mem.le.refl _
 refine wG (A7 @frC_rep oo n2 s2 @cE_ment @cE_kill @hasK_nil) ?_
 refine ⟨fun z=>∃M' D,Mem.le M M'∧D.length=P.length∧okFL M' D ∧D.map prV=P.map prV∧z=copO M' v l P.length P.length D,?_,?_⟩
 ·refine wT (A6 oo n2 s2 @cE_ment @cE_kill @hasK_nil) ?_
  refine ⟨fun m z=>∃M' D i,m=P.length-i∧i≤P.length∧Mem.le M M'∧D.length=i∧okFL M' D ∧D.map prV=(P.take i).map prV∧z=copO M' v l P.length i D,
   ⟨P.length,copO M v l P.length 0 [],le_sub ⟨rfl,rfl,rfl,rfl,rfl,rfl,trivial⟩ ⟨rfl,rfl,rfl,rfl,trivial⟩ rfl rfl rfl (keepLt0 _),⟨M,[],0,by omega,by omega,Mem.le.refl _,rfl,(fun x hx=>by cases hx),rfl,rfl⟩⟩,?_⟩
  rintro m z ⟨M2,D,i,rfl,hi,m2,hD,hDo,hDv,rfl⟩
  by_cases hlt:i<P.length
  case neg=>
   obtain rfl:i=P.length:=by omega
   have y1:decide ((P.length:Int)<(P.length:Int))=false:=by simp
   rw[List.take_length]at hDv
   refine wT (A12 @copO.eq_1 @cpO.eq_1 @se0.eq_1 @nilE.eq_1 y1 oo @frC_ment @frC_kill @hasK_nil @cE_ment @cE_kill @hasK_nil) ?_
   exact ⟨copO M2 v l P.length P.length D,le_sub ⟨rfl,rfl,rfl,rfl,rfl,rfl,trivial⟩ ⟨rfl,rfl,rfl,rfl,trivial⟩ rfl rfl rfl (keepLt0 _),M2,D,m2,hD,hDo,hDv,rfl⟩
  have y1:decide ((i:Int)<(P.length:Int))=true:=by rw[decide_eq_true_eq];omega
  have y2:(0:Int)≤(i:Int):=by omega
  have y3:(i:Int)<(P.length:Int):=by omega
  have wi:IntKind.i64.wrap ((i:Int)+1)=((i+1:Nat):Int):=succ_i (by omega)
  have m02:=m1.trans m2
  have hu2:=h.p.le m02
  have hnn:=hu2.nn hlt
  have hat:=hu2.at (P:=Tryz.prog) (T:=32) (fun _=>rfl) tk32 tz32 hlt
  have hF:=(h.o.le m02) _ (List.getElem_mem hlt)
  have htk:(P.take (i+1)).map prV=(P.take i).map prV++[prV P[i]]:=by rw[List.take_add_one,List.getElem?_eq_getElem hlt,List.map_append];rfl
  have hlen:=frC_len (D++List.replicate (P.length-i) zFR)
  rw[List.length_append,hD,List.length_replicate,show i+(P.length-i)=P.length by omega]at hlen
  have hin:i*2+2≤P.length*2:=by omega
  generalize P[i]=x at *
  obtain ⟨x1,x2,c1,c2⟩:=x
  have hat2:lookM Tryz.prog 32 M2 (elemP v.up 2 i)=some (.agg #[x1,x2]):=hat
  clear hat
  have hF:IsF M2 x1 x2 c1 c2:=hF
  have p3:=hF.n.one
  have p4:=hF.d.one
  have hf:=A12 @copO.eq_1 @cpO.eq_1 @se0.eq_1 @nilE.eq_1 y1 y2 y3 hnn hat2 oo p3 (A9 p4 n2 s2 @frC_ment @frC_kill @hasK_nil @cE_ment @cE_kill @hasK_nil);refine wS ?_;(first|refine yN ?_|refine yM ?_);refine kS 84 (cfrac_ok hF (fun w1 w2 M3 m3 g3 fa fb=>sG ?_));all_goals clear hf
  have m3:Mem.le M2 M3:=m3
  have p5:=g3.n.one
  have p6:=g3.d.one
  have hst:=frC_setF (L:=D++List.replicate (P.length-i) zFR) (i:=i) (by rw[List.length_append,hD,List.length_replicate];omega) ⟨w1,w2,c1,c2⟩
  rw[set_fill D _ _ hD hlt]at hst
  refine wG (A12 @cpO.eq_1 @se0.eq_1 @nilE.eq_1 p5 p6 wi y1 y2 y3 hlen hin (A11 hst oo n2 s2 @frC_ment @frC_kill @hasK_nil @Nat.zero_add @cE_ment @cE_kill @hasK_nil)) ?_
  exact ⟨P.length-(i+1),copO M3 v l P.length (i+1) (D++[⟨w1,w2,c1,c2⟩]),by omega,le_sub ⟨rfl,rfl,rfl,rfl,rfl,rfl,trivial⟩ ⟨rfl,rfl,rfl,rfl,trivial⟩ rfl rfl rfl (keepLt0 _),M3,_,i+1,rfl,by omega,m2.trans m3,by rw[List.length_append,hD];rfl,(fun x hx=>by
   rcases List.mem_append.1 hx with hx|hx
   ·exact (hDo x hx).le m3
   ·rw[List.mem_singleton.1 hx];exact g3),by rw[List.map_append,hDv,htk];rfl,rfl⟩
 ·rintro z ⟨M2,D,m2,hD,hDo,hDv,rfl⟩
  refine Fz.flat (k:=17) (n:=P.length) (w:=2) (T:=32) 3 (D.flatMap FR.c) [(2,.own 2 0),(1,.own 1 0)] [(2,37,se0),(1,37,cpO v l.length),(305,3,cE intV64 l)] rfl (by
   show some (_,frC (D++List.replicate (P.length-P.length) zFR))=_
   rw[Nat.sub_self,List.replicate_zero,List.append_nil];rfl) (by rw[flat_len (z:=2) (f:=FR.c) (fun _=>rfl),hD]) (Nat.zero_le _) ⟨rfl,rfl,trivial⟩ rfl ⟨rfl,rfl,rfl,trivial⟩ (by simp[mentH,mentL,AV.ment,hasK,cE_ment,se0,nilE,cpO]) (keepLt0 _) (fun j hj _=>absurd hj (Nat.not_lt_zero _)) (fun M3 wp m3 hwp fp=>?_)
  have m3:Mem.le M2 M3:=m3
  have hwp:IsR M3 2 FR.c wp D:=by unfold IsR;rw[hD];exact hwp
  have p2:=hwp.one
  have m03:=(m1.trans m2).trans m3
  have h3:=h.le m03
  have nq:=h.q.len
  have sq:=h.q.sl
  have nf:=h.f.len
  have sf:=h.f.sl
  have hf:=A8 @cpO.eq_1 @se0.eq_1 @nilE.eq_1 oo p2 @cE_ment @cE_kill @hasK_nil;refine wS ?_;(first|refine yN ?_|refine yM ?_);refine kS 84 (cfrac_ok h3.d (fun e1 e2 M4 m4 g4 h41 h42=>sG ?_));all_goals clear hf
  have m4:Mem.le M3 M4:=m4
  have q1:=g4.n.one
  have q2:=g4.d.one
  refine Stop.go ?_
  (try with_reducible refine Fz.of ?_);have hf:=A10 @cpO.eq_1 @se0.eq_1 @nilE.eq_1 oo p2 q1 q2 @cE_ment @cE_kill @hasK_nil;refine sF ?_;(repeat' ((first|((with_reducible first|refine yN ?_|refine yM ?_);refine kS 84 (cfrac_ok (h3.y.le m4) (fun a1 a2 M5 m5 g5 h51 h52=>Stop.mk ?_)))|((with_reducible refine isE 38 (by decide) ?_);refine dR (rP 0 3 [] (rP 4 3 [2] ((3,[6]) :: (rP 7 4 [] [])))) (rgL 38 7 []) [] ?_)|refine oB ?_|fail)<;>refine sF ?_<;>try with_reducible exact tT))<;>try clear hf
  have m5:Mem.le M4 M5:=m5
  have q3:=g5.n.one
  have q4:=g5.d.one
  refine Stop.go ?_
  (try with_reducible refine Fz.of ?_);have hf:=A12 @cpO.eq_1 @se0.eq_1 @nilE.eq_1 oo p2 q1 q2 q3 q4 @cE_ment @cE_kill @hasK_nil;refine sF ?_;(repeat' ((first|((with_reducible first|refine yN ?_|refine yM ?_);refine kS 84 (cfrac_ok ((h3.x.le m4).le m5) (fun b1 b2 M6 m6 g6 h61 h62=>Stop.mk ?_)))|((with_reducible refine isE 38 (by decide) ?_);refine dR (rP 0 3 [] (rP 4 3 [2] ((3,[6]) :: (rP 7 4 [] [])))) (rgL 38 7 []) [] ?_)|refine oB ?_|fail)<;>refine sF ?_<;>try with_reducible exact tT))<;>try clear hf
  have m6:Mem.le M5 M6:=m6
  have q5:=g6.n.one
  have q6:=g6.d.one
  have hqb:=h.qb
  have hfb:=h.fb
  refine Stop.go ?_
  (try with_reducible refine Fz.of ?_);have hf:=A12 @copO.eq_1 @cpO.eq_1 @se0.eq_1 @nilE.eq_1 oo p2 q1 q2 q3 q4 q5 (A8 q6 nq sq nf sf @cE_ment @cE_kill @hasK_nil);refine sF ?_;(repeat' ((first|((with_reducible refine isE 38 (by decide) ?_);refine dR (rP 0 3 [] (rP 4 3 [2] ((3,[6]) :: (rP 7 4 [] [])))) (rgL 38 7 []) [] ?_)|((with_reducible refine isE 48 (by decide) ?_);refine dR (rP 0 4 [] (rP 4 4 [1] [(8,[5]),(9,[])])) (6 :: (rgL 48 8 [])) [] ?_)|refine oB ?_|fail)<;>refine sF ?_<;>try with_reducible exact tT))<;>try clear hf
  have h6:=((h3.le m4).le m5).le m6
  have m36:=m4.trans (m5.trans m6)
  have hkk:=hK ⟨.slice none 0 0,wp,a1,a2,b1,b2,e1,e2,v.most,v.uq,v.uf⟩ D M6 (m03.trans m36) rfl (hwp.le m36) (hDo.le (m3.trans m36)) hDv (g5.le m6) g6 (g4.le (m5.trans m6))
  by_cases hu0:0<u.length
  case pos=>
   refine ask_copy (k:=51) (T:=3) (elem:=3) (u:=v.uq) (vs:=u.map intV64) rfl (by rfl) (by rfl) rfl rfl rfl (by rw[List.length_map,repN_one]) hu0 h6.q (fun x hx=>by obtain ⟨y,_,rfl⟩:=List.mem_map.1 hx;rfl) ?_
   refine wT (A12 @copO.eq_1 @cpO.eq_1 @se0.eq_1 @nilE.eq_1 oo p2 q1 q2 q3 q4 q5 (A8 q6 nq sq nf sf @cE_ment @cE_kill @hasK_nil)) ?_
   refine ask_copy (k:=55) (T:=4) (elem:=4) (u:=v.uf) (vs:=b.map Value.bool) rfl (by rfl) (by rfl) rfl rfl rfl (by rw[List.length_map,repN_one]) (by omega) h6.f (fun x hx=>by obtain ⟨y,_,rfl⟩:=List.mem_map.1 hx;rfl) ?_
   have ce1:List.map AV.ext (List.map intV64 u)=cE intV64 u:=rfl
   have ce2:List.map AV.ext (List.map Value.bool b)=cE Value.bool b:=rfl
   refine wT (A12 @copO.eq_1 @cpO.eq_1 @se0.eq_1 @nilE.eq_1 oo p2 q1 q2 q3 q4 q5 (A10 q6 nq sq nf sf ce1 ce2 @cE_ment @cE_kill @hasK_nil)) ?_
   exact hkk
  case neg=>
   have hu1:u=[]:=List.eq_nil_of_length_eq_zero (by omega)
   have hb0:b=[]:=List.eq_nil_of_length_eq_zero (by omega)
   subst hu1 hb0
   have h6q:SlM M6 1 v.uq 0 ([]:List Value):=h6.q
   have h6f:SlM M6 1 v.uf 0 ([]:List Value):=h6.f
   refine ask_copy0 (k:=51) (elem:=3) (u:=v.uq) (vs:=[]) rfl (by rfl) (by rfl) rfl rfl h6q ?_
   refine wT (A12 @copO.eq_1 @cpO.eq_1 @se0.eq_1 @nilE.eq_1 oo p2 q1 q2 q3 q4 q5 (A8 q6 nq sq nf sf @cE_ment @cE_kill @hasK_nil)) ?_
   refine ask_copy0 (k:=55) (elem:=4) (u:=v.uf) (vs:=[]) rfl (by rfl) (by rfl) rfl rfl h6f ?_
   refine wT (A12 @copO.eq_1 @cpO.eq_1 @se0.eq_1 @nilE.eq_1 oo p2 q1 q2 q3 q4 q5 (A8 q6 nq sq nf sf @cE_ment @cE_kill @hasK_nil)) ?_
   exact hkk
end
section
variable {M:Mem}{K:AV→Hp→Mem→Prop}{v:SeV}{l:List Int}{P:List FR}{fl dt d:LP}
theorem cnewO_ok(h:SeR M v l P fl dt d [] [])(hq:v.uq=.slice none 0 0)(hfn:v.uf=.slice none 0 0)(h0:0<l.length)(z1:chkC l P fl dt d v.most=0)
  (hK:∀(w:SeV) D M',Mem.le M M'→D.map prV=P.map prV→IsR M' 2 FR.c w.up D→okFL M' D→IsF M' w.y1 w.y2 fl.1 fl.2→IsF M' w.x1 w.x2 dt.1 dt.2→IsF M' w.d1 w.d2 d.1 d.2→K (.ag true [.ag false [.slo 305 0 l.length 1,.ext w.up,.ext w.y1,.ext w.y2,.ext w.x1,.ext w.x2,.ext w.d1,.ext w.d2,.ext (.int .i64 v.most),.slo 51 0 0 1,.slo 55 0 0 1],.ext (.int .i64 0)]) [(55,4,[]),(51,3,[]),(305,3,cE intV64 l)] M') :
  CallS Tryz.prog 14 [.ext (.agg #[v.ur]),.ext v.up,.ext (.agg #[v.y1,v.y2,v.x1,v.x2]),.ext (.agg #[v.d1,v.d2]),.ext (.int .i64 v.most)] [] M [] K:=by
 refine inlS (cs:=[]) Tryz.mixed Tryz.func14 rfl (by kernel_rfl) 0 rfl rfl ?_
 simp only[Tryz.f14]
 have oo:=h.ones
 have hve:v.v=.agg #[v.ur,v.up,v.y1,v.y2,v.x1,v.x2,v.d1,v.d2,.int .i64 v.most,.slice none 0 0,.slice none 0 0]:=by unfold SeV.v;rw[hq,hfn]
 have hck:=fun K=>ccheck_ok (K:=K) h
 rw[hve]at hck
 have hf:=oo;refine wS ?_;refine kN 43 (hck _ (fun M1 m1=>sG ?_));all_goals clear hf
 have m1:Mem.le M M1:=m1
 have hcp:=fun K=>ccopiedO_ok (K:=K) (h.le m1) rfl h0
 rw[hve]at hcp
 have hf:=A2 oo z1;refine wH ?_;refine kN 44 (hcp _ (fun w D M2 m2 hm g2 g3 g4 g5 g6 g7=>sG ?_));all_goals clear hf
 have m2:Mem.le M1 M2:=m2
 have p2:=g2.one
 have p3:=g5.n.one
 have p4:=g5.d.one
 have p5:=g6.n.one
 have p6:=g6.d.one
 have p7:=g7.n.one
 have p8:=g7.d.one
 have hk:=hK w D M2 (m1.trans m2) g4 g2 g3 g5 g6 g7
 refine wG (A11 oo p2 p3 p4 p5 p6 p7 p8 @cE_ment @cE_kill @hasK_nil) ?_
 exact hk
theorem same36_own{w v:SeV}{D:List FR}{T1 T2 T3:TypeId}(hp:IsR M 2 FR.c w.up D)(ho:okFL M D)(hy:IsF M w.y1 w.y2 fl.1 fl.2)(hx:IsF M w.x1 w.x2 dt.1 dt.2)(hd:IsF M w.d1 w.d2 d.1 d.2)(g:SeR M v l P fl dt d [] [])(hD:D.map prV=P.map prV)
  (hK:K (.ext (.bool true)) [(55,T1,[]),(51,T2,[]),(305,T3,cE intV64 l)] M) :
  CallS Tryz.prog 16 [.ag false [.slo 305 0 l.length 1,.ext w.up,.ext w.y1,.ext w.y2,.ext w.x1,.ext w.x2,.ext w.d1,.ext w.d2,.ext (.int .i64 v.most),.slo 51 0 0 1,.slo 55 0 0 1],.ext v.v] [(55,T1,[]),(51,T2,[]),(305,T3,cE intV64 l)] M [] K:=by
 have gl:D.length=P.length:=by have:=congrArg List.length hD;simpa using this
 have hpb:=g.pb
 refine CallS.bor ⟨⟨[],rfl⟩,⟨[],rfl⟩,⟨_,rfl⟩,trivial⟩ fun us M' hM hb'=>?_
 obtain ⟨_,_,rfl,⟨_,⟨x0,_,rfl,h0,_,_,rfl,rfl,_,_,rfl,rfl,_,_,rfl,rfl,_,_,rfl,rfl,_,_,rfl,rfl,_,_,rfl,rfl,_,_,rfl,rfl,_,_,rfl,rfl,x1,_,rfl,h1,x2,_,rfl,h2,rfl⟩,rfl⟩,_,_,rfl,rfl,rfl⟩:=hb'
 have e0:IsL M' intV64 x0 l:=by
  have:=h0 T3 (l.map intV64) rfl (by simp)
  rw[List.drop_zero,List.take_of_length_le (by simp)]at this
  exact this
 have e1:IsL M' intV64 x1 []:=h1 T2 [] (by simp[lkH]) (by simp)
 have e2:IsL M' Value.bool x2 []:=h2 T1 [] (by simp[lkH]) (by simp)
 exact same36_ok (v:=⟨x0,w.up,w.y1,w.y2,w.x1,w.x2,w.d1,w.d2,v.most,x1,x2⟩) ⟨e0,hp.le hM,ho.le hM,hy.le hM,hx.le hM,hd.le hM,g.lb,by omega,e1,e2,by simp,by simp⟩ (g.le hM) hD.symm rfl (BorK.same hK)
theorem begunO_ok(u:Value)(l:List Int)(m k:Nat)(hm0:0<m)(hm:m≤4)(hk0:0<k)(hk:k≤8)(hu:IsL M intV64 u l)
  (hK:∀(w:SeV) (L:List Int) (D:List FR) (N:List (Nat×Nat)) (f g dl:Nat×Nat) (p:Nat) M',p≤100→Mem.le M M'→chkL L=true→L.length≤m→IsR M' 2 FR.c w.up D→okFL M' D→D.map prV=N.map opN→(∀q∈N,OkN q)→N.length=L.length→IsF M' w.y1 w.y2 (ofN f.1) (ofN f.2)→IsF M' w.x1 w.x2 (ofN g.1) (ofN g.2)→IsF M' w.d1 w.d2 (ofN dl.1) (ofN dl.2)→OkN dl→1≤w.most→w.most≤k→
   K (.ag true [.ag false [.slo 305 0 L.length 1,.ext w.up,.ext w.y1,.ext w.y2,.ext w.x1,.ext w.x2,.ext w.d1,.ext w.d2,.ext (.int .i64 w.most),.slo 51 0 0 1,.slo 55 0 0 1],.ext (.bool true)]) [(55,4,[]),(51,3,[]),(305,3,cE intV64 L),(38,25,[.ext u,.ext (.int .i64 (p:Int))])] M') :
  CallS Tryz.prog 19 [.own 38 0,.ext (.int .i64 (m:Int)),.ext (.int .i64 (k:Int))] [(38,25,[.ext u,.ext (.int .i64 (0:Int))])] M [] K:=by
 refine inlS (cs:=[]) Tryz.mixed Tryz.func19 rfl (by kernel_rfl) 100 rfl rfl ?_
 simp only[Tryz.f19]
 have hf:=hu.one;refine wS ?_;refine yH 10 ?_;refine sF ?_;refine drawn38_ok u l m k hm0 hm hk0 hk hu (fun v L P N f g dl p M1 hp m1 hv hL hq hfn hfg hm1 hm2=>sG ?_);all_goals clear hf
 have m1:Mem.le M M1:=m1
 have oo:=hv.ones
 have hR:=hv.rr hq hfn
 have hck:=hv.chk hfg hm1 (by omega)
 have hl8:=chk_len hv.c
 have uo:=hu.one
 have hf:=A3 @SeV.v.eq_1 uo oo;refine wH ?_;refine kN 14 (cnewO_ok hR hq hfn (by omega) hck (fun w D M2 m2 hD g1 g2 g3 g4 g5=>sG ?_));all_goals clear hf
 have m2:Mem.le M1 M2:=m2
 have p1:=g1.one
 have p3:=g3.n.one
 have p4:=g3.d.one
 have p5:=g4.n.one
 have p6:=g4.d.one
 have p7:=g5.n.one
 have p8:=g5.d.one
 have hf:=A12 @SeV.v.eq_1 uo oo p1 p3 p4 p5 p6 p7 p8 @cE_ment (A2 @cE_kill @hasK_nil);refine wH ?_;refine kN 15 (rNew_ok (hR.le m2) (fun hne=>absurd hck hne) (fun _ M3 m3=>sG ?_));all_goals clear hf
 have m3:Mem.le M2 M3:=m3
 have hR3:=hR.le (m2.trans m3)
 have hk9:=hK ⟨.slice none 0 0,w.up,w.y1,w.y2,w.x1,w.x2,w.d1,w.d2,v.most,.slice none 0 0,.slice none 0 0⟩ L D N f g dl p M3 hp (m1.trans (m2.trans m3)) hv.c hL (g1.le m3) (g2.le m3) (hD.trans hv.n) hv.no hv.nl (g3.le m3) (g4.le m3) (g5.le m3) hv.do_ hm1 hm2
 have hve:v.fresh=v.v:=by unfold SeV.fresh SeV.v;rw[hq,hfn]
 refine Stop.go ?_
 have hf:=A12 hve @SeV.v.eq_1 uo oo p1 p3 p4 p5 p6 p7 p8 (A3 @cE_ment @cE_kill @hasK_nil);refine sF ?_;(repeat' ((first|((with_reducible first|refine yB ?_|refine yC ?_);first|refine kG 16 ?_|refine kS 16 (same36_own (w:=w) (v:=v) (g1.le m3) (g2.le m3) (g3.le m3) (g4.le m3) (g5.le m3) hR3 hD (Stop.mk ?_)))|((with_reducible refine isE 45 (by decide) ?_);refine dR ((0,[]) :: (rP 1 8 [0] [(9,[0,8]),(10,[0]),(11,[0]),(12,[]),(13,[])])) (rgL 45 12 []) [] ?_)|refine oB ?_|fail)<;>refine sF ?_<;>try with_reducible exact tT))<;>try clear hf
 refine Stop.go ?_
 have hf:=A12 hve @SeV.v.eq_1 uo oo p1 p3 p4 p5 p6 p7 p8 (A3 @cE_ment @cE_kill @hasK_nil);refine sF ?_;(repeat' ((first|((with_reducible refine isE 45 (by decide) ?_);refine dR ((0,[]) :: (rP 1 8 [0] [(9,[0,8]),(10,[0]),(11,[0]),(12,[]),(13,[])])) (rgL 45 12 []) [] ?_)|refine oB ?_|fail)<;>refine sF ?_<;>try with_reducible exact tT))<;>try clear hf
 trace_state
 exact hk9
end
section
variable {M:Mem}{K:AV→Hp→Mem→Prop}
def fnC(n:Nat)(w:SeV):List AV:=[.slo 305 0 n 1,.ext w.up,.ext w.y1,.ext w.y2,.ext w.x1,.ext w.x2,.ext w.d1,.ext w.d2,.ext (.int .i64 w.most),.slo 51 0 0 1,.slo 55 0 0 1]
def fnA(M:Mem)(n i:Nat)(a c:Int)(w:SeV)(L:List Int):St:={env:=[(11,.ext (.int .i64 (i:Int))),(10,.ext (.int .i64 (n:Int))),(8,.own 24 0),(2,.ext (.int .i64 c)),(1,.ext (.int .i64 a))],hp:=[(24,37,fnC n w),(55,4,[]),(51,3,[]),(305,3,cE intV64 L)],M:=M,kb:=16,fx:=[]}
def fnB(M:Mem)(i s:Nat)(w:SeV)(ur us uw z1 z2:Value):St:={env:=[(16,.ext (.int .i64 (i:Int))),(15,.own 31 0),(14,.own 30 0),(12,.ext (.int .i64 (s:Int))),(8,.own 24 0)],hp:=[(31,32,[.ext z1,.ext z2]),(30,53,[.ext ur,.ext us,.ext uw]),(24,37,w.c)],M:=M,kb:=16,fx:=[]}
def fnD(M:Mem)(s:Nat)(w:SeV)(z1 z2:Value):St:={env:=[(15,.own 31 0),(12,.ext (.int .i64 (s:Int))),(8,.own 24 0)],hp:=[(31,32,[.ext z1,.ext z2]),(24,37,w.c)],M:=M,kb:=16,fx:=[]}
theorem cfinds36_ok(u:Value)(t:List Int)(a c:Int)(hu:IsL M intV64 u t)(hK:∀M',Mem.le M M'→K (.ext (.bool true)) [] M'):CallS Tryz.prog 4 [.ext u,.ext (.int .i64 a),.ext (.int .i64 c)] [] M [] K:=by
 refine inlS (cs:=[]) Tryz.mixed Tryz.func4 rfl (by kernel_rfl) 16 rfl rfl ?_
 simp only[Tryz.f4]
 have uo:=hu.one
 have hf:=uo;refine wS ?_;refine yH 19 ?_;refine sF ?_;refine begunO_ok u t 3 8 (by decide) (by decide) (by decide) (by decide) hu (fun w L D N f g dl p M1 hp m1 hcl hL hrp hok hDv hNo hNl hy hx hd hdo hm1 hm2=>sG ?_);all_goals clear hf
 have m1:Mem.le M M1:=m1
 have p1:=hy.n.one
 have p2:=hy.d.one
 have p3:=hx.n.one
 have p4:=hx.d.one
 have p5:=hd.n.one
 have p6:=hd.d.one
 have p7:=hrp.one
 have hl8:=chk_len hcl
 obtain ⟨n,hn⟩:∃n,n=L.length:=⟨_,rfl⟩
 rw[←hn]at hNl hl8 hL ⊢
 refine wG (A11 uo p1 p2 p3 p4 p5 p6 p7 @cE_ment @cE_kill @hasK_nil) ?_
 refine ⟨fun m z=>∃i L',m=n-i∧i≤n∧L'.length=n∧z=fnA M1 n i a c w L',
  ⟨n,fnA M1 n 0 a c w L,le_sub ⟨rfl,rfl,rfl,rfl,rfl,trivial⟩ ⟨rfl,rfl,rfl,rfl,trivial⟩ rfl rfl rfl (keepLt_of rfl),⟨0,L,by omega,by omega,hn.symm,rfl⟩⟩,?_⟩
 rintro m z ⟨i,L',rfl,hi,hL',rfl⟩
 have e4:(cE intV64 L').length=n:=by rw[cE_len];exact hL'
 by_cases hlt:i<n
 ·have y1:decide ((i:Int)<(n:Int))=true:=by rw[decide_eq_true_eq];omega
  have y2:(0:Int)≤(i:Int):=by omega
  have y3:(i:Int)<(n:Int):=by omega
  have wi:IntKind.i64.wrap ((i:Int)+1)=((i+1:Nat):Int):=succ_i (by omega)
  have hset:(cE intV64 L').set i (.ext (.int .i64 (-1)))=cE intV64 (L'.set i (-1)):=cE_set intV64 L' i (-1)
  refine wT (A12 @fnA.eq_1 @fnC.eq_1 y1 y2 y3 hlt wi e4 hset @Nat.mul_one @Nat.zero_add (A10 p1 p2 p3 p4 p5 p6 p7 @cE_ment @cE_kill @hasK_nil)) ?_
  exact ⟨n-(i+1),fnA M1 n (i+1) a c w (L'.set i (-1)),by omega,le_sub ⟨rfl,rfl,rfl,rfl,rfl,trivial⟩ ⟨rfl,rfl,rfl,rfl,trivial⟩ rfl rfl rfl (keepLt_of rfl),i+1,L'.set i (-1),rfl,by omega,by rw[List.length_set];exact hL',rfl⟩
 obtain rfl:i=n:=by omega
 clear hlt
 have y1:decide ((i:Int)<(i:Int))=false:=by simp
 obtain ⟨ia,hia,hia2⟩:∃j:Nat,foldI a (i:Int)=(j:Int)∧j<i:=by
  have h:=foldI_bd1 a (i:Int) (by omega) (by omega)
  obtain ⟨j,hj⟩:=Int.eq_ofNat_of_zero_le h.1
  exact ⟨j,hj,by omega⟩
 obtain ⟨ic,hic,hic2⟩:∃j:Nat,foldI c (i:Int)=(j:Int)∧j<i:=by
  have h:=foldI_bd1 c (i:Int) (by omega) (by omega)
  obtain ⟨j,hj⟩:=Int.eq_ofNat_of_zero_le h.1
  exact ⟨j,hj,by omega⟩
 have hs1:=shl_one (i:=ia) (by omega)
 have hs2:=shl_one (i:=ic) (by omega)
 have hmem:=fnd_set (n:=i) (by omega) hia2 hic2
 have hs8:=fnd_lt ia (by omega) ic (by omega)
 have hor:bits .or .i64 ((2^ia:Nat):Int) ((2^ic:Nat):Int)=((2^ia ||| 2^ic:Nat):Int):=bits_or (Nat.lt_trans (Nat.pow_lt_pow_right (by decide) (show ia<3 by omega)) (by decide)) (Nat.lt_trans (Nat.pow_lt_pow_right (by decide) (show ic<3 by omega)) (by decide))
 have hchk:=fnd_chk i (by omega) (by omega)
 generalize 2^ia ||| 2^ic=sv at *
 have hf:=A12 @fnA.eq_1 @fnC.eq_1 y1 hia hic hs1 hs2 hor e4 p1 p2 (A8 p3 p4 p5 p6 p7 @cE_ment @cE_kill @hasK_nil);refine sF ?_;(repeat' ((first|((with_reducible refine yM ?_);first|refine kS 11 (fold_ok _ _ ?_)|refine kS 20 (plain36_frz i (by omega) (fun ur M2 m2 a2 _=>Stop.mk ?_)))|((with_reducible refine isE 44 (by decide) ?_);refine dR ((0,[]) :: (1,[]) :: (4,[]) :: (5,[]) :: (2,[]) :: (3,[]) :: (rP 6 4 [] [])) (rgL 44 8 []) [] ?_)|((with_reducible refine isE 54 (by decide) ?_);refine dR ((0,[]) :: (2,[]) :: (3,[]) :: (7,[3]) :: (8,[3]) :: (9,[3,8]) :: (10,[3,8]) :: (1,[3,8,10]) :: (rP 4 3 [3,8,10] (rP 11 6 [] []))) (rgL 54 11 [66,67]) [] ?_)|refine oB ?_|fail)<;>refine sF ?_<;>try with_reducible exact tT))<;>try clear hf
 have m2:Mem.le M1 M2:=m2
 have q1:=a2.one
 refine Stop.go ?_
 have hf:=A12 q1 e4 p1 p2 p3 p4 p5 p6 p7 @cE_ment @cE_kill @hasK_nil;refine sF ?_;(repeat' ((first|((with_reducible first|refine yN ?_|refine yM ?_);refine kS 12 (sml36_ok 1 100 (by decide) (by decide) (by decide) (by decide) (by decide) (fun y1 y2 M3 m3 f3=>Stop.mk ?_)))|((with_reducible refine isE 54 (by decide) ?_);refine dR ((0,[]) :: (2,[]) :: (3,[]) :: (7,[3]) :: (8,[3]) :: (9,[3,8]) :: (10,[3,8]) :: (1,[3,8,10]) :: (rP 4 3 [3,8,10] (rP 11 6 [] []))) (rgL 54 11 [66,67]) [] ?_)|refine oB ?_|fail)<;>refine sF ?_<;>try with_reducible exact tT))<;>try clear hf
 have m3:Mem.le M2 M3:=m3
 have q2:=f3.n.one
 have q3:=f3.d.one
 refine Stop.go ?_
 have hf:=A12 q1 q2 q3 e4 p1 p2 p3 p4 p5 p6 p7 (A3 @cE_ment @cE_kill @hasK_nil);refine sF ?_;(repeat' ((first|((with_reducible first|refine yN ?_|refine yM ?_);refine kS 12 (sml36_ok 99 100 (by decide) (by decide) (by decide) (by decide) (by decide) (fun x1 x2 M4 m4 f4=>Stop.mk ?_)))|((with_reducible refine isE 54 (by decide) ?_);refine dR ((0,[]) :: (2,[]) :: (3,[]) :: (7,[3]) :: (8,[3]) :: (9,[3,8]) :: (10,[3,8]) :: (1,[3,8,10]) :: (rP 4 3 [3,8,10] (rP 11 6 [] []))) (rgL 54 11 [66,67]) [] ?_)|refine oB ?_|fail)<;>refine sF ?_<;>try with_reducible exact tT))<;>try clear hf
 have m4:Mem.le M3 M4:=m4
 have q4:=f4.n.one
 have q5:=f4.d.one
 have m14:=m2.trans (m3.trans m4)
 have hv:SeI M4 ⟨ur,w.up,y1,y2,x1,x2,w.d1,w.d2,w.most,.slice none 0 0,.slice none 0 0⟩ (List.replicate i (-1)) D N (1,100) (99,100) dl:=⟨a2.le (m3.trans m4),hchk,hrp.le m14,hok.le m14,hDv,hNo,by rw[List.length_replicate];exact hNl,f3.le m4,f4,hd.le m14,fnd_ok1,fnd_ok99,hdo,rfl,rfl⟩
 have hck:=hv.chk (by decide) (most:=w.most) hm1 (by omega)
 refine Stop.go ?_
 have hf:=A12 q1 q2 q3 q4 q5 e4 p1 p2 p3 p4 p5 (A5 p6 p7 @cE_ment @cE_kill @hasK_nil);refine sF ?_;(repeat' ((first|((with_reducible refine yM ?_);refine kS 14 (cnew_ok (hv.rr rfl rfl) rfl rfl (fun hne=>absurd hck hne) (fun _ w5 D5 M5 m5 hfr hD5 hwm hR5=>Stop.mk ?_)))|((with_reducible refine isE 54 (by decide) ?_);refine dR ((0,[]) :: (2,[]) :: (3,[]) :: (7,[3]) :: (8,[3]) :: (9,[3,8]) :: (10,[3,8]) :: (1,[3,8,10]) :: (rP 4 3 [3,8,10] (rP 11 6 [] []))) (rgL 54 11 [66,67]) [] ?_)|refine oB ?_|fail)<;>refine sF ?_<;>try with_reducible exact tT))<;>try clear hf
 have m5:Mem.le M4 M5:=m5
 obtain ⟨L0,hL0⟩:∃L0:List Int,List.replicate i (-1)=L0:=⟨_,rfl⟩
 rw[hL0]at hmem hchk hck hR5
 have hwm:w5.most=w.most:=hwm
 obtain ⟨most,hmo⟩:∃most:Int,w.most=most:=⟨_,rfl⟩
 rw[hmo]at hwm hm1 hm2
 have hI:PlyI M5 w5 L0 D5 N (1,100) (99,100) dl most [] [] (startX L0 (D5.map numF)):=⟨hR5,hD5.trans hDv,hwm,by rw[←hmo];exact playS_begin ((chkC_cong hD5).trans hck) (by omega)⟩
 have oo:=hR5.ones
 have hpl:=hI.p
 rw[←hwm]at hpl
 have hf:=A5 @SeV.v.eq_1 oo @cE_ment @cE_kill @hasK_nil;refine wH ?_;refine kN 21 (cBelief_ok hR5 (fun hp=>absurd (hpl.symm.trans hp) (by simp)) (fun X' br bs bw M6 hp m6 hB hpx hv6=>sG ?_));all_goals clear hf
 have m6:Mem.le M5 M6:=m6
 cases hpl.symm.trans hp
 have b1:=hB.l.one
 have b2:=hB.s.one
 have b3:=hB.q.one
 have hf:=A7 oo b1 b2 b3 @cE_ment @cE_kill @hasK_nil;refine wH ?_;(first|refine yN ?_|refine yM ?_);refine kS 12 (sml_ok 0 1 (by decide) (by decide) (by decide) (fun z1 z2 M7 m7 g1 g2 _ _=>sG ?_));all_goals clear hf
 have m7:Mem.le M6 M7:=m7
 have gF:IsF M7 z1 z2 (ofN 0) (ofN 1):=isF_ofN g1 g2 ⟨ofN0_len,ofN1_len⟩
 have q6:=gF.n.one
 have q7:=gF.d.one
 have hB7:=hB.le m7
 have hI7:=hI.le (m6.trans m7)
 generalize startX L0 (D5.map numF)=X0 at *
 obtain ⟨k,hk,hke⟩:=List.mem_iff_getElem.1 hmem
 have hXl:=hpx.len
 obtain ⟨W,w1,w2,w3⟩:=hB7.q
 have lL:W.length=(setsL L0 2).length:=by have:=congrArg List.length w3;rw[List.length_map,List.length_map,qX_len,hpx.len]at this;exact this
 have n2:=hB7.s.len
 have s2:=hB7.s.sl
 have n3:=w1.len
 have s3:=w1.sl
 rw[lL]at n3
 have hsb:(setsL L0 2).length<1000000:=Nat.lt_of_le_of_lt (setsL_len hchk) (by decide)
 have hbb:Sm (b0*1000000^([]:List Int).length*1000000):=by rw[smC_succ];exact smC (by decide)
 have hS0:Sm (lsum X0):=hbb.le (Nat.le_trans hpx.le (Nat.le_mul_of_pos_right _ (by decide)))
 refine wG (A9 oo b1 b2 b3 q6 q7 @cE_ment @cE_kill @hasK_nil) ?_
 refine ⟨fun m z=>∃j z1 z2 q,m=(setsL L0 2).length-j∧j≤(setsL L0 2).length∧IsF M7 z1 z2 (ofN q.1) (ofN q.2)∧(k<j→q=red (X0.getD k 0) (lsum X0))∧z=fnB M7 j sv w5 br bs bw z1 z2,
  ⟨(setsL L0 2).length,fnB M7 0 sv w5 br bs bw z1 z2,le_sub ⟨rfl,rfl,rfl,rfl,rfl,trivial⟩ ⟨rfl,rfl,rfl,trivial⟩ rfl rfl rfl (keepLt_of rfl),⟨0,z1,z2,(0,1),by omega,by omega,gF,fun h=>absurd h (Nat.not_lt_zero _),rfl⟩⟩,?_⟩
 clear gF g1 g2 q6 q7
 rintro m z ⟨j,z1,z2,q,rfl,hj,gF,hq,rfl⟩
 have q6:=gF.n.one
 have q7:=gF.d.one
 by_cases hlt:j<(setsL L0 2).length
 ·have y1:decide ((j:Int)<((setsL L0 2).length:Int))=true:=by rw[decide_eq_true_eq];omega
  have y2:(0:Int)≤(j:Int):=by omega
  have y3:(j:Int)<((setsL L0 2).length:Int):=by omega
  have wi:IntKind.i64.wrap ((j:Int)+1)=((j+1:Nat):Int):=succ_i (by omega)
  have hjL:j<W.length:=by omega
  have hpg:=plain_get (k:=j) w3 (by omega)
  rw[List.getD_eq_getElem?_getD,List.getElem?_eq_getElem hjL]at hpg
  have hnn:=w1.nn hjL
  have hat:=w1.at (P:=Tryz.prog) (T:=32) (fun _=>rfl) tk32 tz32 hjL
  have hF:=w2 _ (List.getElem_mem hjL)
  have fs:=hB7.s.idx (P:=Tryz.prog) (T:=3) tk3 tz3 (by omega) hlt
  have hinj:=sets_inj hlt hk
  rw[hke]at hinj
  generalize W[j]=x at *
  obtain ⟨v1,v2,c1,c2⟩:=x
  have hat2:lookM Tryz.prog 32 M7 (elemP bw 2 j)=some (.agg #[v1,v2]):=hat
  clear hat
  have hc:c1=ofN (red (X0.getD j 0) (lsum X0)).1∧c2=ofN (red (X0.getD j 0) (lsum X0)).2:=hpg
  obtain ⟨rfl,rfl⟩:=hc
  have hF:IsF M7 v1 v2 (ofN (red (X0.getD j 0) (lsum X0)).1) (ofN (red (X0.getD j 0) (lsum X0)).2):=hF
  have p8:=hF.n.one
  have p9:=hF.d.one
  generalize hsj:(setsL L0 2)[j]=sj at *
  by_cases hjk:j=k
  ·have d1:decide ((sj:Int)=(sv:Int))=true:=by rw[decide_eq_true_eq,hinj.2 hjk]
   refine wT (A12 @fnB.eq_1 @SeV.c.eq_1 @natV.eq_1 y1 y2 y3 wi d1 fs hat2 hnn (A12 n2 s2 n3 s3 oo b1 b2 b3 q6 q7 p8 p9)) ?_
   exact ⟨(setsL L0 2).length-(j+1),fnB M7 (j+1) sv w5 br bs bw v1 v2,by omega,le_sub ⟨rfl,rfl,rfl,rfl,rfl,trivial⟩ ⟨rfl,rfl,rfl,trivial⟩ rfl rfl rfl (keepLt_of rfl),j+1,v1,v2,_,rfl,by omega,hF,fun _=>by rw[hjk],rfl⟩
  ·have d1:decide ((sj:Int)=(sv:Int))=false:=by rw[decide_eq_false_iff_not];intro h;exact hjk (hinj.1 (by omega))
   refine wT (A12 @fnB.eq_1 @SeV.c.eq_1 @natV.eq_1 y1 y2 y3 wi d1 fs hat2 hnn (A12 n2 s2 n3 s3 oo b1 b2 b3 q6 q7 p8 p9)) ?_
   exact ⟨(setsL L0 2).length-(j+1),fnB M7 (j+1) sv w5 br bs bw z1 z2,by omega,le_sub ⟨rfl,rfl,rfl,rfl,rfl,trivial⟩ ⟨rfl,rfl,rfl,trivial⟩ rfl rfl rfl (keepLt_of rfl),j+1,z1,z2,q,rfl,by omega,gF,fun h=>hq (by omega),rfl⟩
 have hjn:j=(setsL L0 2).length:=by omega
 clear hlt hj
 have y1:decide ((j:Int)<((setsL L0 2).length:Int))=false:=by rw[hjn];simp
 obtain rfl:q=red (X0.getD k 0) (lsum X0):=hq (by omega)
 clear hq hjn
 refine wT (A12 @fnB.eq_1 @SeV.c.eq_1 y1 n2 s2 n3 s3 oo b1 b2 b3 (A2 q6 q7)) ?_
 refine ⟨fun d z=>∃M' w' D' uq bq X,d=most.toNat-uq.length∧Mem.le M7 M'∧PlyI M' w' L0 D' N (1,100) (99,100) dl most uq bq X∧PX (setsL L0 2) X (b0*1000000^uq.length)∧fndR X0 X k∧z=fnD M' sv w' z1 z2,
  ⟨most.toNat,fnD M7 sv w5 z1 z2,le_sub ⟨rfl,rfl,rfl,trivial⟩ ⟨rfl,rfl,trivial⟩ rfl rfl rfl (keepLt_of rfl),⟨M7,w5,D5,[],[],X0,by simp,Mem.le.refl _,hI7,hpx,Nat.le_refl _,rfl⟩⟩,?_⟩
 clear oo hpl
 rintro d z ⟨M8,w8,D8,uq,bq,X,rfl,m8,hI8,hpx8,hfn8,rfl⟩
 have hR:=hI8.r
 have oo:=hR.ones
 have hwm8:=hI8.m
 have hpl:=hI8.p
 rw[←hwm8]at hpl
 obtain ⟨hl1,hl2⟩:=playS_len hI8.p
 have hXl8:=hpx8.len
 have gF8:=gF.le m8
 have m08:Mem.le M M8:=m1.trans (m14.trans (m5.trans (m6.trans (m7.trans m8))))
 have hf:=A5 @fnD.eq_1 @SeV.c.eq_1 q6 q7 oo;refine wS ?_;refine kN 22 (cNext_ok hR (fun hp=>absurd (hpl.symm.trans hp) (by simp)) (fun X' M9 hp m9=>sG ?_));all_goals clear hf
 have m9:Mem.le M8 M9:=m9
 cases hpl.symm.trans hp
 rw[numL_opN]
 have hR9:=hR.le m9
 by_cases hz:(nextX L0 (setsL L0 2) dl w8.most X uq.length).2=0
 ·obtain ⟨p,hnx0⟩:∃p,nextX L0 (setsL L0 2) dl w8.most X uq.length=(p,0):=⟨_,Prod.ext rfl hz⟩
  have hnx:=hnx0
  rw[hwm8]at hnx
  obtain ⟨hset,_,hlt⟩:=nextX_set hchk hnx
  obtain ⟨pn,hpn,hp8,_⟩:=setB_nat hchk hset
  subst hpn
  have hnx':nextX L0 (setsL L0 2) (numL (opN dl)) w8.most X uq.length=((pn:Int),0):=by rw[numL_opN];exact hnx0
  have k1:=congrArg Prod.fst hnx0
  have k2:=congrArg Prod.snd hnx0
  have k3:=congrArg Prod.fst hnx'
  have hel:=effN_lt (p:=pn) hchk
  have ba:=bits_and (a:=effN L0 pn) (b:=sv) (by omega) (by omega)
  have hps:playS L0 D8 (opN (1,100)) (opN (99,100)) (opN dl) w8.most uq bq=some X:=hpl
  refine Stop.go ?_
  have hf:=A7 k1 k2 ba @rngV.eq_1 q6 q7 oo;refine sF ?_;(repeat' ((first|((with_reducible refine yM ?_);refine kS 24 (alive_ok w8.ur L0 pn hR9.r hchk hp8 (Stop.mk ?_)))|((with_reducible refine isE 112 (by decide) ?_);refine dR ((0,[]) :: (1,[0]) :: (2,[0]) :: (3,[0,2]) :: (5,[0,2]) :: (4,[0]) :: (6,[0]) :: (7,[0]) :: (rP 8 6 [] [])) (rgL 112 8 [121,122]) [] ?_)|refine oB ?_|fail)<;>refine sF ?_<;>try with_reducible exact tT))<;>try clear hf
  refine Stop.go ?_
  have hf:=A7 k1 k2 ba @rngV.eq_1 q6 q7 oo;refine sF ?_;(repeat' ((first|((with_reducible refine yM ?_);refine kS 23 (creport_ok _ hR9 (fun hp=>absurd (hps.symm.trans hp) (by simp)) (fun X' hp he=>absurd (by cases hps.symm.trans hp;exact congrArg Prod.snd hnx') he) (fun X' hp he w10 D10 M10 m10 hD10 hm10 hR10=>Stop.mk ?_)))|((with_reducible refine isE 112 (by decide) ?_);refine dR ((0,[]) :: (1,[0]) :: (2,[0]) :: (3,[0,2]) :: (5,[0,2]) :: (4,[0]) :: (6,[0]) :: (7,[0]) :: (rP 8 6 [] [])) (rgL 112 8 [121,122]) [] ?_)|refine oB ?_|fail)<;>refine sF ?_<;>try with_reducible exact tT))<;>try clear hf
  have m10:Mem.le M9 M10:=m10
  cases hps.symm.trans hp
  rw[k3]at hR10
  have hI10:=(hI8.le m9).snoc hnx hlt hD10 hm10 hR10
  have o10:=hR10.ones
  refine wG (A5 @SeV.v.eq_1 o10 q6 q7 oo) ?_
  exact ⟨most.toNat-(uq.length+1),fnD M10 sv w10 z1 z2,by omega,le_sub ⟨rfl,rfl,rfl,trivial⟩ ⟨rfl,rfl,trivial⟩ rfl rfl rfl (keepLt_of rfl),M10,w10,D10,_,_,_,by rw[List.length_append];rfl,m8.trans (m9.trans m10),hI10,by rw[List.length_append];exact (smC_succ (j:=uq.length))▸hpx8.one fnd_ok1 fnd_ok99 _ _,hfn8.step (by omega) hk hXl8 (by rw[hke,Int.toNat_natCast]),rfl⟩
 have d0:decide ((nextX L0 (setsL L0 2) dl w8.most X uq.length).2=0)=false:=decide_eq_false hz
 have hf:=A5 d0 @SeV.c.eq_1 q6 q7 oo;refine wH ?_;refine kN 25 (cFind_ok hR9 (fun hp=>absurd (hpl.symm.trans hp) (by simp)) (fun X' w3 w4 M10 hp m10 g3 g4=>sG ?_));all_goals clear hf
 have m10:Mem.le M9 M10:=m10
 cases hpl.symm.trans hp
 rw[numL_opN]
 have r1:=g3.one
 have r2:=g4.one
 have fin:=fun M11 (h:Mem.le M10 M11)=>hK M11 (m08.trans (m9.trans (m10.trans h)))
 by_cases hdx:decX dl X=true
 case neg=>
  have hdx:decX dl X=false:=by simpa using hdx
  have hf:=A7 hdx @SeV.c.eq_1 q6 q7 r1 r2 oo;refine wH ?_;refine kN 18 (known36_ok (fun M11 m11=>sG ?_));all_goals clear hf
  have hk:=fin M11 m11
  refine wG uo ?_
  exact hk
 have hbl:=bestN_lt X X.length (by omega)
 have hgd:(setsL L0 2).getD (bestN X X.length) 0=(setsL L0 2)[bestN X X.length]'(by omega):=by rw[List.getD_eq_getElem?_getD,List.getElem?_eq_getElem (by omega)];rfl
 have hinj:=sets_inj (l:=L0) (m:=2) (i:=bestN X X.length) (j:=k) (by omega) hk
 rw[←hgd,hke]at hinj
 by_cases hbk:bestN X X.length=k
 ·have d1:decide ((((setsL L0 2).getD (bestN X X.length) 0:Nat):Int)=(sv:Int))=true:=by rw[decide_eq_true_eq,hinj.2 hbk]
  have hf:=A8 hdx d1 @SeV.c.eq_1 q6 q7 r1 r2 oo;refine wH ?_;refine kN 18 (known36_ok (fun M11 m11=>sG ?_));all_goals clear hf
  have hk:=fin M11 m11
  refine wG uo ?_
  exact hk
 have d1:decide ((((setsL L0 2).getD (bestN X X.length) 0:Nat):Int)=(sv:Int))=false:=by rw[decide_eq_false_iff_not];intro h;exact hbk (hinj.1 (by omega))
 have hcm:=fnd_cmp (fnd_end hfn8 hdx (by omega) hbk hpx8.sum (by have:=hdo.2.1;omega)) hpx.sum hS0 hdo
 have hdF:IsF M10 w8.d1 w8.d2 (ofN dl.1) (ofN dl.2):=(hR9.le m10).d
 have hf:=A8 hdx d1 @SeV.c.eq_1 q6 q7 r1 r2 oo;refine wH ?_;refine kN 26 (fcmp_ok hdF (gF8.le (m9.trans m10)) (fun M11 m11=>sG ?_));all_goals clear hf
 have m11:Mem.le M10 M11:=m11
 have hf:=A9 hcm hdx d1 @SeV.c.eq_1 q6 q7 r1 r2 oo;refine wH ?_;refine kN 18 (known36_ok (fun M12 m12=>sG ?_));all_goals clear hf
 have hk:=fin M12 (m11.trans m12)
 refine wG uo ?_
 exact hk
end
end Go.Proofs.YtiipiciemgdaeaaGreat.Sx
