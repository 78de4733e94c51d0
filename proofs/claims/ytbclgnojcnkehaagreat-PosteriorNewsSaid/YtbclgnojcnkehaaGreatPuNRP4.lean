/- Part 37 of the texts of this claim: a symbolic executor and contracts of functions. -/
import Derived.Test.YtbclgnojcnkehaaGreatPuNRP3
namespace Go.Proofs.YtbclgnojcnkehaaGreat.Sx
open Go Go.RowKit
set_option linter.unusedVariables false
set_option linter.unusedSimpArgs false
set_option maxRecDepth 100000
set_option maxHeartbeats 8000000
attribute [local congr] fin_congr finG_congr stepG_congr step1_congr runOps_congr brv_congr obl_congr condK_congr LoopK_congr seqK_congr CutK_congr vc_congr DrawK_congr regK_congr CallK_congr AskK_congr newK_congr retC_congr ret1_congr retK_congr outV_congr closeK_congr genR_congr appR_congr finD_congr finGD_congr stepGD_congr stepD_congr CallK0_congr runD_congr okR_congr CallS_congr vcX_congr
attribute [local congr] Stop_congr
theorem rOK_set{L:List Int}{i:Nat}{x:Int}(h:rOK L L.length)(h1 : -1≤x)(h2:x<(i:Int)):rOK (L.set i x) (L.set i x).length:=fun j hj _=>by
 rw[List.length_set]at hj
 rw[List.getElem_set]
 split
 ·rename_i e;subst e;exact ⟨h1,h2⟩
 ·exact h j hj hj
theorem rOK_repl(n:Nat):rOK (List.replicate n (-1)) (List.replicate n (-1)).length:=fun j hj _=>by
 rw[List.getElem_replicate];omega
structure PriI (M:Mem) (D:List FR) (i:Nat):Prop where
 len:D.length=i
 ok:okFL M D
 val:∃N:List (Nat×Nat),D.map prV=N.map opN∧∀p∈N,OkN p
theorem PriI.le{M M':Mem}{D:List FR}{i:Nat}(h:PriI M D i)(hM:Mem.le M M'):PriI M' D i:=⟨h.len,h.ok.le hM,h.val⟩
theorem PriI.snoc{M:Mem}{D:List FR}{i:Nat}(h:PriI M D i){w1 w2:Value}{a:Nat×Nat}(hf:IsF M w1 w2 (ofN a.1) (ofN a.2))(ha:OkN a):PriI M (D++[⟨w1,w2,ofN a.1,ofN a.2⟩]) (i+1):=by
 obtain ⟨N,h1,h2⟩:=h.val
 refine ⟨by rw[List.length_append,h.len];rfl,fun x hx=>?_,N++[a],by rw[List.map_append,List.map_append,h1];rfl,fun p hp=>?_⟩
 ·rcases List.mem_append.1 hx with hx|hx
  ·exact h.ok x hx
  ·rw[List.mem_singleton.1 hx];exact hf
 ·rcases List.mem_append.1 hp with hp|hp
  ·exact h2 p hp
  ·rw[List.mem_singleton.1 hp];exact ha
theorem frC_last(D:List FR)(x y:FR):(frC (D++[x])).take (D.length*2)++(.ext y.u1 :: .ext y.u2 :: (frC (D++[x])).drop (D.length*2+2))=frC (D++[y]):=by
 have h:=frC_setF (L:=D++[x]) (i:=D.length) (by simp) y
 rw[h]
 congr 1
 simp
section
variable {M:Mem}{K:AV→Hp→Mem→Prop}
def s35Hp(u:Value)(p n:Nat)(L:List Int):Hp:=[(190,3,cE intV64 L),(106,33,[.slo 190 0 n 1]),(104,33,[.ext (.slice none 0 0)]),(53,31,[.ext u,.ext (.int .i64 (p:Int))])]
def s35St(M:Mem)(u:Value)(p i n:Nat)(L:List Int)(D:List FR):St:={env:=[(8,.ext (.int .i64 (i:Int))),(7,.slo 107 0 i 2),(6,.own 106 0),(4,.own 104 0),(0,.own 53 0)],hp:=(107,27,frC D) :: s35Hp u p n L,M:=M,kb:=100,fx:=[53]}
theorem some53_ok(u:Value)(l:List Int)(m:Nat)(hm0:0<m)(hm:m≤8)(hu:IsL M intV64 u l)
  (hK:∀(L:List Int) (n p:Nat) v w M' D,chkL L=true→L.length=n→p≤100→Mem.le M M'→IsL M' intV64 v L→IsR M' 2 FR.c w D→PriI M' D n→K (.ext (.tuple #[.agg #[v],w])) [(53,31,[.ext u,.ext (.int .i64 (p:Int))])] M') :
  CallS Tryz.prog 11 [.own 53 0,.ext (.int .i64 (m:Int))] [(53,31,[.ext u,.ext (.int .i64 (0:Int))])] M [] K:=by
 refine CallS.frzF ?_
 refine inlS (cs:=[8,11]) Tryz.mixed Tryz.func11 rfl (by kernel_rfl) 100 rfl rfl ?_
 simp only[Tryz.f11]
 have e0:keysH [(53,31,[AV.ext u,AV.ext (.int .i64 (0:Int))])]=[53]:=rfl
 (try with_reducible refine Fz.of ?_);have hf:=hu.one;refine sF ?_;(repeat' ((first|((with_reducible first|refine yA ?_|refine yB ?_|refine yC ?_);first|refine kH 14 ?_|refine kG 14 ?_|refine kS 14 (nextI_ok 53 u l 0 (m:Int) hu (by omega) (by omega) (by omega) (fun x hx0 hx1=>Stop.mk ?_)))|refine oB ?_|fail)<;>refine sF ?_<;>try with_reducible exact tT))<;>try clear hf
 obtain ⟨q,rfl⟩:=Int.eq_ofNat_of_zero_le hx0
 have hwq:IntKind.i64.wrap (1+(q:Int))=((q+1:Nat):Int):=by rw[wrap_id (by omega) (by omega)];omega
 refine Stop.go ?_
 (try with_reducible refine Fz.of ?_);have hf:=A4 hwq hu.one @cE_ment @hasK_nil;refine sF ?_;(repeat' ((first|((with_reducible refine yN ?_);refine kS 42 (plain_own (q+1) (by omega) (Stop.mk ?_)))|refine oB ?_|fail)<;>refine sF ?_<;>try with_reducible exact tT))<;>try clear hf
 have hq8:q+1≤8:=by omega
 refine Stop.go ?_
 (try with_reducible refine Fz.of ?_);have hf:=A3 hu.one @cE_ment @hasK_nil;refine sF ?_;(repeat' ((first|refine oB ?_|fail)<;>refine sF ?_<;>try with_reducible exact tT))<;>try clear hf
 obtain ⟨n,hn⟩:∃n,n=q+1:=⟨_,rfl⟩
 rw[←hn]at hq8 ⊢
 have hn1:1≤n:=by omega
 clear hwq hx0 hx1
 refine ⟨fun z=>∃M' p L D,p≤60∧Mem.le M M'∧L.length=n∧rOK L L.length∧PriI M' D n∧z=s35St M' u p n n L D,?_,?_⟩
 ·(try with_reducible refine Fz.of ?_);have hf:=A3 hu.one @cE_ment @hasK_nil;refine sF ?_;(repeat' ((first|refine oB ?_|fail)<;>refine sF ?_<;>try with_reducible exact tT))<;>try clear hf
  refine ⟨fun d z=>∃M' p L D i,d=n-i∧i≤n∧p≤6*i+1∧Mem.le M M'∧L.length=n∧rOK L L.length∧PriI M' D i∧z=s35St M' u p i n L D,
   ⟨n,s35St M u 1 0 n (List.replicate n (-1)) [],(le_nil 7 107 27 2 rfl (.inl (by simp[awayB,mentE,mentH,mentL,AV.ment,hasK,cE_ment]))).trans (le_sub ⟨rfl,rfl,rfl,rfl,rfl,trivial⟩ ⟨rfl,rfl,rfl,rfl,rfl,trivial⟩ rfl rfl rfl (keepLt_of rfl)),⟨M,1,_,[],0,by omega,by omega,by omega,Mem.le.refl _,List.length_replicate,rOK_repl _,⟨rfl,fun x hx=>(by cases hx),[],rfl,fun p hp=>(by cases hp)⟩,rfl⟩⟩,?_⟩
  rintro d z ⟨M1,p,L,D,i,rfl,hi,hp,hM,hL,hr,hD,rfl⟩
  have hu1:=hu.le hM
  by_cases hlt:i<n
  case neg=>
   obtain rfl:i=n:=by omega
   have d1:decide ((i:Int)<(i:Int))=false:=by simp
   (try with_reducible refine Fz.of ?_);have hf:=A9 @s35St.eq_1 @s35Hp.eq_1 d1 hu.one @cE_ment @frC_ment @frC_kill @cE_kill @hasK_nil;refine sF ?_;(repeat' ((first|refine oB ?_|fail)<;>refine sF ?_<;>try with_reducible exact tT))<;>try clear hf
   exact ⟨s35St M1 u p i i L D,le_sub ⟨rfl,rfl,rfl,rfl,rfl,trivial⟩ ⟨rfl,rfl,rfl,rfl,rfl,trivial⟩ rfl rfl rfl (keepLt_of rfl),M1,p,L,D,by omega,hM,hL,hr,hD,rfl⟩
  have d1:decide ((i:Int)<(n:Int))=true:=by rw[decide_eq_true_eq];omega
  have d2:(i:Int)<(n:Int):=by omega
  have d3:(0:Int)≤(i:Int):=by omega
  have hw:IntKind.i64.wrap ((i:Int)+1)=((i+1:Nat):Int):=succ_i (by omega)
  have hlen:(cE intV64 L).length=n:=by rw[cE_len];exact hL
  (try with_reducible refine Fz.of ?_);have hf:=A9 @s35St.eq_1 @s35Hp.eq_1 d1 hu.one @cE_ment @frC_ment @frC_kill @cE_kill @hasK_nil;refine sF ?_;(repeat' ((first|refine oB ?_|fail)<;>refine sF ?_<;>try with_reducible exact tT))<;>try clear hf
  refine ⟨fun z=>∃p' L',L'.length=n∧rOK L' L'.length∧p'≤p+2∧z=s35St M1 u p' i n L' D,?_,?_⟩
  ·rcases Nat.eq_zero_or_pos i with hi0|hi0
   ·have g0:decide ((0:Int)<(i:Int))=false:=by rw[decide_eq_false_iff_not];omega
    (try with_reducible refine Fz.of ?_);have hf:=A7 g0 hu.one @cE_ment @frC_ment @frC_kill @cE_kill @hasK_nil;refine sF ?_;(repeat' ((first|((with_reducible refine isE 27 (by decide) ?_);refine dR ((0,[]) :: (1,[]) :: (rP 2 4 [1] [(6,[]),(7,[])])) (rgL 27 6 []) [] ?_)|refine oB ?_|fail)<;>refine sF ?_<;>try with_reducible exact tT))<;>try clear hf
    exact ⟨s35St M1 u p i n L D,le_sub ⟨rfl,rfl,rfl,rfl,rfl,trivial⟩ ⟨rfl,rfl,rfl,rfl,rfl,trivial⟩ rfl rfl rfl (keepLt_of rfl),p,L,hL,hr,by omega,rfl⟩
   have g0:decide ((0:Int)<(i:Int))=true:=by rw[decide_eq_true_eq];omega
   (try with_reducible refine Fz.of ?_);have hf:=A7 g0 hu.one @cE_ment @frC_ment @frC_kill @cE_kill @hasK_nil;refine sF ?_;(repeat' ((first|((with_reducible first|refine yA ?_|refine yC ?_);first|refine kH 30 ?_|refine kS 30 (chance_ok 53 u l p 1 4 hu1 (by omega) (by omega) (by omega) (fun b=>Stop.mk ?_)))|((with_reducible refine isE 27 (by decide) ?_);refine dR ((0,[]) :: (1,[]) :: (rP 2 4 [1] [(6,[]),(7,[])])) (rgL 27 6 []) [] ?_)|refine oB ?_|fail)<;>refine sF ?_<;>try with_reducible exact tT))<;>try clear hf
   cases b with
   | false=>
    refine Stop.go ?_
    (try with_reducible refine Fz.of ?_);have hf:=A7 g0 hu.one @cE_ment @frC_ment @frC_kill @cE_kill @hasK_nil;refine sF ?_;(repeat' ((first|refine oB ?_|fail)<;>refine sF ?_<;>try with_reducible exact tT))<;>try clear hf
    exact ⟨s35St M1 u (p+1) i n L D,le_sub ⟨rfl,rfl,rfl,rfl,rfl,trivial⟩ ⟨rfl,rfl,rfl,rfl,rfl,trivial⟩ rfl rfl rfl (keepLt_of rfl),p+1,L,hL,hr,by omega,rfl⟩
   | true=>
    refine Stop.go ?_
    (try with_reducible refine Fz.of ?_);have hf:=A11 g0 d2 d3 hlen hu.one @cE_ment @frC_ment @frC_kill @cE_kill @hasK_nil @Nat.mul_one;refine sF ?_;(repeat' ((first|((with_reducible first|refine yA ?_|refine yB ?_|refine yC ?_);first|refine kH 14 ?_|refine kG 14 ?_|refine kS 14 (nextI_ok 53 u l (p+1) (i:Int) hu1 (by omega) (by omega) (by omega) (fun x hx0 hx1=>Stop.mk ?_)))|((with_reducible refine isE 27 (by decide) ?_);refine dR ((0,[]) :: (1,[]) :: (rP 2 4 [1] [(6,[]),(7,[])])) (rgL 27 6 []) [] ?_)|refine oB ?_|fail)<;>refine sF ?_<;>try with_reducible exact tT))<;>try clear hf
    have hset:(cE intV64 L).set i (.ext (.int .i64 x))=cE intV64 (L.set i x):=cE_set intV64 L i x
    refine Stop.go ?_
    (try with_reducible refine Fz.of ?_);have hf:=A12 g0 d2 d3 hlen hset hu.one @cE_ment @frC_ment @frC_kill @cE_kill @hasK_nil @Nat.mul_one;refine sF ?_;(repeat' ((first|refine oB ?_|fail)<;>refine sF ?_<;>try with_reducible exact tT))<;>try clear hf
    exact ⟨s35St M1 u (p+1+1) i n (L.set i x) D,le_sub ⟨rfl,rfl,rfl,rfl,rfl,trivial⟩ ⟨rfl,rfl,rfl,rfl,rfl,trivial⟩ rfl rfl rfl (keepLt_of rfl),p+1+1,L.set i x,by rw[List.length_set];exact hL,rOK_set hr (by omega) hx1,by omega,rfl⟩
  clear hL hr hlen
  rintro z ⟨p',L',hL,hr,hp',rfl⟩
  have hlD:(frC D).length=i*2:=by rw[frC_len,hD.len]
  (try with_reducible refine Fz.of ?_);have hf:=A8 @s35St.eq_1 @s35Hp.eq_1 hu.one @cE_ment @frC_ment @frC_kill @cE_kill @hasK_nil;refine sF ?_;(repeat' ((first|((with_reducible first|refine yA ?_|refine yB ?_|refine yC ?_);first|refine kH 14 ?_|refine kG 14 ?_|refine kS 14 (nextI_ok 53 u l p' 9 hu1 (by omega) (by omega) (by omega) (fun x hx0 hx1=>Stop.mk ?_)))|refine oB ?_|fail)<;>refine sF ?_<;>try with_reducible exact tT))<;>try clear hf
  obtain ⟨a,rfl⟩:=Int.eq_ofNat_of_zero_le hx0
  obtain ⟨b,hb⟩:∃b,b=a+1:=⟨_,rfl⟩
  have w2:IntKind.i64.wrap (1+(a:Int))=(b:Int):=by rw[wrap_id (by omega) (by omega)];omega
  have hok:=redN_ok (n:=b) (d:=10) (by omega) (by omega) (by omega)
  refine Stop.go ?_
  (try with_reducible refine Fz.of ?_);have hf:=A7 w2 hu.one @cE_ment @frC_ment @frC_kill @cE_kill @hasK_nil;refine sF ?_;(repeat' ((first|((with_reducible refine yN ?_);refine kS 13 (sml_ok b 10 (by omega) (by omega) (by omega) (fun v1 v2 M2 a1 a2 a3 _ _=>Stop.mk ?_)))|refine oB ?_|fail)<;>refine sF ?_<;>try with_reducible exact tT))<;>try clear hf
  have a1:Mem.le M1 M2:=a1
  have p1:=a2.one
  have p2:=a3.one
  have hf:IsF M2 v1 v2 (ofN (red b 10).1) (ofN (red b 10).2):=isF_ofN a2 a3 ⟨(sm1000 (by have:=hok.le1;omega)).len,(sm1000 (by have:=hok.le1;omega)).len⟩
  have hD2:=(hD.le a1).snoc hf hok
  have hu2:=hu1.le a1
  have ap:frC D++[.ext v1,.ext v2]=frC (D++[⟨v1,v2,ofN (red b 10).1,ofN (red b 10).2⟩]):=by simp[frC,FR.c]
  refine Stop.go ?_
  (try with_reducible refine Fz.of ?_);have hf:=A10 p1 p2 ap hlD hu.one @cE_ment @frC_ment @frC_kill @cE_kill @hasK_nil;refine sF ?_;(repeat' ((first|((with_reducible first|refine yA ?_|refine yC ?_);first|refine kH 30 ?_|refine kS 30 (chance_ok 53 u l (p'+1) 1 6 hu2 (by omega) (by omega) (by omega) (fun c=>Stop.mk ?_)))|refine oB ?_|fail)<;>refine sF ?_<;>try with_reducible exact tT))<;>try clear hf
  cases c with
  | false=>
   refine Stop.go ?_
   (try with_reducible refine Fz.of ?_);have hf:=A7 hw hu.one @cE_ment @frC_ment @frC_kill @cE_kill @hasK_nil;refine sF ?_;(repeat' ((first|refine oB ?_|fail)<;>refine sF ?_<;>try with_reducible exact tT))<;>try clear hf
   exact ⟨n-(i+1),s35St M2 u (p'+1+1) (i+1) n L' (D++[⟨v1,v2,ofN (red b 10).1,ofN (red b 10).2⟩]),by omega,le_sub ⟨rfl,rfl,rfl,rfl,rfl,trivial⟩ ⟨rfl,rfl,rfl,rfl,rfl,trivial⟩ rfl rfl rfl (keepLt_of rfl),M2,_,L',_,i+1,rfl,by omega,by omega,hM.trans a1,hL,hr,hD2,rfl⟩
  | true=>
   refine Stop.go ?_
   (try with_reducible refine Fz.of ?_);have hf:=A6 hu.one @cE_ment @frC_ment @frC_kill @cE_kill @hasK_nil;refine sF ?_;(repeat' ((first|((with_reducible first|refine yA ?_|refine yC ?_);first|refine kH 40 ?_|refine kS 40 (inner53_ok u l (p'+1+1) hu2 (by omega) (fun e x1 x2 M3 c1 c2 c3=>Stop.mk ?_)))|refine oB ?_|fail)<;>refine sF ?_<;>try with_reducible exact tT))<;>try clear hf
   have c1:Mem.le M2 M3:=c1
   have p3:=c2.n.one
   have p4:=c2.d.one
   have hD3:=((hD.le a1).le c1).snoc c2 c3
   have hst:=frC_last D ⟨v1,v2,ofN (red b 10).1,ofN (red b 10).2⟩ ⟨x1,x2,ofN e.1,ofN e.2⟩
   rw[hD.len]at hst
   have hl2:(frC (D++[(⟨v1,v2,ofN (red b 10).1,ofN (red b 10).2⟩:FR)])).length=(i+1)*2:=by rw[frC_len,List.length_append,hD.len];rfl
   have hin:i*2+2≤(i+1)*2:=by omega
   have d4:(i:Int)<((i+1:Nat):Int):=by omega
   refine Stop.go ?_
   (try with_reducible refine Fz.of ?_);have hf:=A12 hw p3 p4 hst hl2 hin d3 d4 hu.one @cE_ment @frC_ment (A4 @frC_kill @cE_kill @hasK_nil @Nat.zero_add);refine sF ?_;(repeat' ((first|refine oB ?_|fail)<;>refine sF ?_<;>try with_reducible exact tT))<;>try clear hf
   exact ⟨n-(i+1),s35St M3 u (p'+1+1+2) (i+1) n L' (D++[⟨x1,x2,ofN e.1,ofN e.2⟩]),by omega,le_sub ⟨rfl,rfl,rfl,rfl,rfl,trivial⟩ ⟨rfl,rfl,rfl,rfl,rfl,trivial⟩ rfl rfl rfl (keepLt_of rfl),M3,_,L',_,i+1,rfl,by omega,by omega,hM.trans (a1.trans c1),hL,hr,hD3,rfl⟩
 ·rintro z ⟨M1,p,L,D,hp,hM,hL,hr,hD,rfl⟩
  refine Fz.bind (Fz.cell (k:=190) (j:=106) (n:=n) (q:=1) (T:=3) (T0:=33) (L.map intV64) [(7,.slo 107 0 n 2),(6,.own 106 0),(4,.own 104 0),(0,.own 53 0)] [(107,27,frC D),(104,33,[.ext (.slice none 0 0)]),(53,31,[.ext u,.ext (.int .i64 (p:Int))])] rfl rfl (by rw[List.length_map,hL,Nat.mul_one]) (show 100≤190 by decide) (by decide) ⟨rfl,rfl,rfl,rfl,trivial⟩ (by simp[mentE,AV.ment]) ⟨rfl,rfl,rfl,trivial⟩ (by simp[mentH,mentL,AV.ment,frC_ment]) (keepLt_of rfl) (fun j hj hj2=>?_) (fun M2 v hM2 hv _=>?_))
  ·have hj:j<100:=hj
   show j∈[53]
   by_cases e1:j=53
   ·subst e1;decide
   exfalso
   simp only[s35St,s35Hp,lkH]at hj2
   rw[if_neg (by omega),if_neg (by omega),if_neg (by omega),if_neg (by omega),if_neg (by omega)]at hj2
   cases hj2
  have hM2:Mem.le M1 M2:=hM2
  refine Fz.flat (k:=107) (n:=n) (w:=2) (T:=27) 7 (D.flatMap FR.c) [(6,.own 106 0),(4,.own 104 0),(0,.own 53 0)] [(106,33,[.ext v]),(104,33,[.ext (.slice none 0 0)]),(53,31,[.ext u,.ext (.int .i64 (p:Int))])] rfl rfl (by rw[flat_len (z:=2) (f:=FR.c) (fun _=>rfl),hD.len]) (show 100≤107 by decide) ⟨rfl,rfl,rfl,trivial⟩ rfl ⟨rfl,rfl,rfl,trivial⟩ rfl (keepLt_of rfl) (fun j hj hj2=>?_) (fun M3 w hM3 hw _=>?_)
  ·have hj:j<100:=hj
   show j∈[53]
   by_cases e1:j=53
   ·subst e1;decide
   exfalso
   simp only[lkH]at hj2
   rw[if_neg (by omega),if_neg (by omega),if_neg (by omega),if_neg (by omega)]at hj2
   cases hj2
  have hM3:Mem.le M2 M3:=hM3
  have hv1:IsL M2 intV64 v L:=by unfold IsL;rw[hL];exact hv
  have hu2:IsR M3 2 FR.c w D:=by unfold IsR;rw[hD.len];exact hw
  have p1:=hu2.one
  have p2:=hv1.one
  have hk:=hK L n p v w M3 D (by simp only[chkL,decide_eq_true_eq];exact ⟨by omega,by omega,hr⟩) hL (by omega) (hM.trans (hM2.trans hM3)) (hv1.le hM3) hu2 (hD.le (hM2.trans hM3))
  (try with_reducible refine Fz.of ?_);have hf:=A9 @s35St.eq_1 @s35Hp.eq_1 p1 p2 hu.one @cE_ment @frC_ment @frC_kill @hasK_nil;refine sF ?_;(repeat' ((first|refine oB ?_|fail)<;>refine sF ?_<;>try with_reducible exact tT))<;>try clear hf
  exact .inl hk
end
def bestI(L:List FR):Nat→Nat
 | 0=>0
 | k+1=>if 0<cmpF (L.getD k zFR).l1 (L.getD k zFR).l2 (L.getD (bestI L k) zFR).l1 (L.getD (bestI L k) zFR).l2 then k else bestI L k
theorem bestI_le(L:List FR):∀k,bestI L k≤k
 | 0=>Nat.le_refl _
 | k+1=>by
  rw[bestI]
  have:=bestI_le L k
  split<;>omega
theorem bestI_lt(L:List FR):∀k,0<k→bestI L k<k
 | k+1,_=>by
  rw[bestI]
  have:=bestI_le L k
  split<;>omega
section
variable {M:Mem}{K:AV→Hp→Mem→Prop}{ur us uw u1 u2:Value}{l s:List Int}{l1 l2:List Nat}{L:List FR}
theorem cloneN_ok(u:Value)(l:List Nat)(hu:IsL M u32V u l)(hb:l.length<1000000000)(hK:∀w M',Mem.le M M'→IsL M' u32V w l→FreshS M w→K (.ext w) [] M'):CallS Tryz.prog 125 [.ext u] [] M [] K:=by
 refine CallS.frzF ?_
 refine inlS (cs:=[]) Tryz.mixed Tryz.func125 rfl (by kernel_rfl) 0 rfl rfl ?_
 simp only[Tryz.f125]
 cases hn:nilS u with
 | true=>
  have hl:l=[]:=by
   rcases l with _|⟨a,r⟩
   ·rfl
   ·rw[hu.nn (i:=0) (by simp)]at hn;cases hn
  subst hl
  have hf:=A11 hn hu.one hu.sl @cE_ment @hasK_nil @cE_kill @cE_len @u32_one @u32_app1 @u32_set @Nat.mul_one;refine sF ?_;(repeat' ((first|refine oB ?_|fail)<;>refine sF ?_<;>try with_reducible exact tT))<;>try clear hf
  exact .inl (hK _ _ (Mem.le.refl _) (isL_nil _ _ _) (freshS_nil _ _))
 | false=>
  have hrow:=hu.row
  have h1:List.map AV.ext (List.map u32V l)=cE u32V l:=rfl
  have hf:=A12 hn hu.one hu.sl hu.len hrow h1 @cE_ment @hasK_nil @cE_kill @cE_len @u32_one (A3 @u32_app1 @u32_set @Nat.mul_one);refine sF ?_;(repeat' ((first|refine oB ?_|fail)<;>refine sF ?_<;>try with_reducible exact tT))<;>try clear hf
  exact FrzF.one (l.map u32V) rfl (by simp) fun w M' h1 h2 h3=>hK w M' h1 (by unfold IsL;exact h2) h3
theorem copied_ok(hu:IsF M u1 u2 l1 l2)(hK:∀w1 w2 M',Mem.le M M'→IsF M' w1 w2 l1 l2→K (.ext (.agg #[w1,w2])) [] M'):CallS Tryz.prog 87 [.ext (.agg #[u1,u2])] [] M [] K:=by
 refine inlS (cs:=[]) Tryz.mixed Tryz.func87 rfl (by kernel_rfl) 0 rfl rfl ?_
 simp only[Tryz.f87]
 have h1:=hu.n.one
 have h2:=hu.d.one
 have bn:=hu.bn
 have bd:=hu.bd
 have hf:=A2 h1 h2;refine sF ?_;(repeat' ((first|((with_reducible refine yM ?_);refine kS 125 (cloneN_ok u1 l1 hu.n (by omega) (fun w1 M1 m1 a1 _=>Stop.mk ?_)))|((with_reducible refine isE 3 (by decide) ?_);refine dR ((0,[]) :: (1,[]) :: (3,[1]) :: (4,[1]) :: (2,[4]) :: (rP 5 3 [] [])) (rgL 3 5 []) [] ?_)|refine oB ?_|fail)<;>refine sF ?_<;>try with_reducible exact tT))<;>try clear hf
 have m1:Mem.le M M1:=m1
 have p1:=a1.one
 have hd:=hu.d.le m1
 refine Stop.go ?_
 have hf:=A3 h1 h2 p1;refine sF ?_;(repeat' ((first|((with_reducible refine yM ?_);refine kS 125 (cloneN_ok u2 l2 hd (by omega) (fun w2 M2 m2 a2 _=>Stop.mk ?_)))|refine oB ?_|fail)<;>refine sF ?_<;>try with_reducible exact tT))<;>try clear hf
 have m2:Mem.le M1 M2:=m2
 have p2:=a2.one
 have hk:=hK w1 w2 M2 (m1.trans m2) ⟨a1.le m2,a2,hu.on,hu.od,hu.bn,hu.bd⟩
 refine Stop.go ?_
 have hf:=A4 h1 h2 p1 p2;refine sF ?_;(repeat' ((first|refine oB ?_|fail)<;>refine sF ?_<;>try with_reducible exact tT))<;>try clear hf
 exact hk
def bsSt(M:Mem)(ur us uw:Value)(n i a:Nat):St:={env:=[(14,.ext (.int .i64 (i:Int))),(13,.ext (.int .i64 (n:Int))),(5,.ext (.int .i64 (a:Int))),(3,.own 3 0),(1,.own 1 0)],hp:=[(3,27,[.ext (.slice none 0 0),.ext (.slice none 0 0)]),(1,40,[.ext ur,.ext us,.ext uw])],M:=M,kb:=0,fx:=[]}
theorem best_ok(h1:IsL M intV64 ur l)(h2:IsL M intV64 us s)(h3:IsR M 2 FR.c uw L)(h4:okFL M L)(b1:l.length<1000000)(b2:s.length<1000000)(b3:L.length<1000000)(hc:chkB l s L=true)(h0:0<s.length)(hl:s.length=L.length)
  (hK:∀w1 w2 M',Mem.le M M'→IsF M' w1 w2 (L.getD (bestI L s.length) zFR).l1 (L.getD (bestI L s.length) zFR).l2→K (.ext (.tuple #[.int .i64 (s.getD (bestI L s.length) 0),.agg #[w1,w2],.int .i64 0])) [] M') :
  CallS Tryz.prog 36 [.ext (.agg #[ur,us,uw])] [] M [] K:=by
 refine inlS (cs:=[]) Tryz.mixed Tryz.func36 rfl (by kernel_rfl) 0 rfl rfl ?_
 simp only[Tryz.f36]
 have o1:=h1.one
 have o2:=h2.one
 have o3:=h3.one
 have n2:=h2.len
 have n3:=h3.len
 have s2:=h2.sl
 have s3:=h3.sl
 rw[←hl]at n3
 have hf:=A7 o1 o2 o3 n2 n3 s2 s3;refine sF ?_;(repeat' ((first|((with_reducible refine yN ?_);refine kS 18 (pcheck_ok h1 h2 h3 h4 b1 b2 b3 (fun M1 m1=>Stop.mk ?_)))|refine oB ?_|fail)<;>refine sF ?_<;>try with_reducible exact tT))<;>try clear hf
 have m1:Mem.le M M1:=m1
 refine Stop.go ?_
 have hf:=A8 o1 o2 o3 n2 n3 s2 s3 hc;refine sF ?_;(repeat' ((first|refine oB ?_|fail)<;>refine sF ?_<;>try with_reducible exact tT))<;>try clear hf
 refine ⟨fun d z=>∃M' i,d=s.length-i∧i≤s.length∧Mem.le M M'∧z=bsSt M' ur us uw s.length i (bestI L i),
  ⟨s.length,bsSt M1 ur us uw s.length 0 0,le_sub ⟨rfl,rfl,rfl,rfl,rfl,trivial⟩ ⟨rfl,rfl,trivial⟩ rfl rfl rfl (keepLt0 _),⟨M1,0,by omega,by omega,m1,rfl⟩⟩,?_⟩
 clear m1
 rintro d z ⟨M1,i,rfl,hi,hM,rfl⟩
 by_cases hlt:i<s.length
 case pos=>
  have d1:decide ((i:Int)<(s.length:Int))=true:=by rw[decide_eq_true_eq];omega
  have q1:(0:Int)≤(i:Int):=by omega
  have q2:(i:Int)<(s.length:Int):=by omega
  have wi:IntKind.i64.wrap ((i:Int)+1)=((i+1:Nat):Int):=succ_i (by omega)
  have hb:=bestI_le L i
  have k1:i<L.length:=by omega
  have k2:bestI L i<L.length:=by omega
  have q3:(0:Int)≤(bestI L i:Int):=by omega
  have q4:(bestI L i:Int)<(s.length:Int):=by omega
  have hnx:bestI L (i+1)=if 0<cmpF L[i].l1 L[i].l2 (L[bestI L i]).l1 (L[bestI L i]).l2 then i else bestI L i:=by
   rw[bestI,List.getD_eq_getElem?_getD,List.getD_eq_getElem?_getD,List.getElem?_eq_getElem k1,List.getElem?_eq_getElem k2];rfl
  have nn:=(h3.le hM).nn k1
  have a1:=(h3.le hM).at (P:=Tryz.prog) (T:=27) (fun _=>rfl) tk27 tz27 k1
  have a2:=(h3.le hM).at (P:=Tryz.prog) (T:=27) (fun _=>rfl) tk27 tz27 k2
  have f1:=h4.le hM _ (List.getElem_mem k1)
  have f2:=h4.le hM _ (List.getElem_mem k2)
  generalize bestI L i=b at *
  generalize L[i]=X at *
  generalize L[b]=Y at *
  obtain ⟨x1,x2,y1,y2⟩:=X
  obtain ⟨z1,z2,w1,w2⟩:=Y
  have a1:lookM Tryz.prog 27 M1 (elemP uw 2 i)=some (.agg #[x1,x2]):=a1
  have a2:lookM Tryz.prog 27 M1 (elemP uw 2 b)=some (.agg #[z1,z2]):=a2
  have f1:IsF M1 x1 x2 y1 y2:=f1
  have f2:IsF M1 z1 z2 w1 w2:=f2
  have p1:=f1.n.one
  have p2:=f1.d.one
  have p3:=f2.n.one
  have p4:=f2.d.one
  simp only at hnx
  have hf:=A12 @bsSt.eq_1 d1 q1 q2 q3 q4 nn a1 a2 p1 p2 (A9 p3 p4 o1 o2 o3 n2 n3 s2 s3);refine sF ?_;(repeat' ((first|((with_reducible refine yM ?_);refine kS 64 (fcmp_ok f1 f2 (fun M2 m2=>Stop.mk ?_)))|((with_reducible refine isE 17 (by decide) ?_);refine dR [(0,[]),(1,[]),(2,[1]),(3,[]),(4,[]),(5,[1,4]),(6,[1,4]),(7,[1,4,6]),(8,[1,4]),(9,[1,4]),(10,[]),(11,[])] (rgL 17 10 []) [] ?_)|((with_reducible refine isE 31 (by decide) ?_);refine dR ((0,[]) :: (1,[]) :: (2,[1]) :: (3,[]) :: (4,[]) :: (5,[1,4]) :: (6,[1,4]) :: (7,[1,4,6]) :: (rP 8 3 [1,4] (rP 11 3 [] []))) (rgL 31 11 []) [] ?_)|refine oB ?_|fail)<;>refine sF ?_<;>try with_reducible exact tT))<;>try clear hf
  have m2:Mem.le M1 M2:=m2
  by_cases hcm:0<cmpF y1 y2 w1 w2
  ·have e1:decide (0<cmpF y1 y2 w1 w2)=true:=decide_eq_true hcm
   refine Stop.go ?_
   have hf:=A5 e1 wi o1 o2 o3;refine sF ?_;(repeat' ((first|refine oB ?_|fail)<;>refine sF ?_<;>try with_reducible exact tT))<;>try clear hf
   exact ⟨s.length-(i+1),bsSt M2 ur us uw s.length (i+1) i,by omega,le_sub ⟨rfl,rfl,rfl,rfl,rfl,trivial⟩ ⟨rfl,rfl,trivial⟩ rfl rfl rfl (keepLt0 _),M2,i+1,rfl,by omega,hM.trans m2,by rw[hnx,if_pos hcm]⟩
  ·have e1:decide (0<cmpF y1 y2 w1 w2)=false:=decide_eq_false hcm
   refine Stop.go ?_
   have hf:=A5 e1 wi o1 o2 o3;refine sF ?_;(repeat' ((first|refine oB ?_|fail)<;>refine sF ?_<;>try with_reducible exact tT))<;>try clear hf
   exact ⟨s.length-(i+1),bsSt M2 ur us uw s.length (i+1) b,by omega,le_sub ⟨rfl,rfl,rfl,rfl,rfl,trivial⟩ ⟨rfl,rfl,trivial⟩ rfl rfl rfl (keepLt0 _),M2,i+1,rfl,by omega,hM.trans m2,by rw[hnx,if_neg hcm]⟩
 obtain rfl:i=s.length:=by omega
 have d1:decide ((s.length:Int)<(s.length:Int))=false:=by simp
 have hb:=bestI_lt L s.length h0
 generalize bestI L s.length=b at *
 have k1:b<L.length:=by omega
 have q3:(0:Int)≤(b:Int):=by omega
 have q4:(b:Int)<(s.length:Int):=by omega
 have nn:=(h3.le hM).nn k1
 have a1:=(h3.le hM).at (P:=Tryz.prog) (T:=27) (fun _=>rfl) tk27 tz27 k1
 have f1:=h4.le hM _ (List.getElem_mem k1)
 have g1:=(h2.le hM).idx (P:=Tryz.prog) (T:=3) tk3 tz3 (by omega) hb
 rw[List.getD_eq_getElem?_getD,List.getElem?_eq_getElem k1,List.getD_eq_getElem?_getD,List.getElem?_eq_getElem hb,Option.getD_some,Option.getD_some]at hK
 generalize L[b]=X at *
 generalize s[b]=y at *
 obtain ⟨x1,x2,y1,y2⟩:=X
 have a1:lookM Tryz.prog 27 M1 (elemP uw 2 b)=some (.agg #[x1,x2]):=a1
 have f1:IsF M1 x1 x2 y1 y2:=f1
 have p1:=f1.n.one
 have p2:=f1.d.one
 have hf:=A12 @bsSt.eq_1 d1 q3 q4 nn a1 g1 @intV64.eq_1 p1 p2 o1 (A6 o2 o3 n2 n3 s2 s3);refine sF ?_;(repeat' ((first|((with_reducible refine yM ?_);refine kS 87 (copied_ok f1 (fun v1 v2 M2 m2 a2=>Stop.mk ?_)))|((with_reducible refine isE 17 (by decide) ?_);refine dR [(0,[]),(1,[]),(2,[1]),(3,[]),(4,[]),(5,[1,4]),(6,[1,4]),(7,[1,4,6]),(8,[1,4]),(9,[1,4]),(10,[]),(11,[])] (rgL 17 10 []) [] ?_)|((with_reducible refine isE 31 (by decide) ?_);refine dR ((0,[]) :: (1,[]) :: (2,[1]) :: (3,[]) :: (4,[]) :: (5,[1,4]) :: (6,[1,4]) :: (7,[1,4,6]) :: (rP 8 3 [1,4] (rP 11 3 [] []))) (rgL 31 11 []) [] ?_)|refine oB ?_|fail)<;>refine sF ?_<;>try with_reducible exact tT))<;>try clear hf
 have m2:Mem.le M1 M2:=m2
 have p3:=a2.n.one
 have p4:=a2.d.one
 have hk:=hK v1 v2 M2 (hM.trans m2) a2
 refine Stop.go ?_
 have hf:=A5 p3 p4 o1 o2 o3;refine sF ?_;(repeat' ((first|refine oB ?_|fail)<;>refine sF ?_<;>try with_reducible exact tT))<;>try clear hf
 exact hk
end
theorem facG_cong(s:Nat):∀(P P':List FR) (j:Nat),P.map prV=P'.map prV→facG s j P=facG s j P'
 | [],[],_,_=>rfl
 | [],_ :: _,_,h=>by simp at h
 | _ :: _,[],_,h=>by simp at h
 | x :: r,y :: q,j,h=>by
  rw[List.map_cons,List.map_cons,List.cons.injEq]at h
  have h1:x.l1=y.l1∧x.l2=y.l2:=Prod.mk.injEq ..▸h.1
  rw[facG,facG,facG_cong s r q (j+1) h.2]
  unfold facE
  rw[h1.1,h1.2]
theorem newB_cong{l:List Int}{m:Int}{P P':List FR}(h:P.map prV=P'.map prV):newB l P m=newB l P' m:=by
 have h1:P.length=P'.length:=by have:=congrArg List.length h;simpa using this
 have h2:newW P=newW P':=funext fun s=>by unfold newW;rw[facG_cong s P P' 0 h]
 unfold newB
 rw[h1,all_cong innF P P' h,h2]
theorem updB_cong{l s:List Int}{fl dt:LP}{pool:Int}{failed:Bool}{L L':List FR}(h:L.map prV=L'.map prV):updB l s L fl dt pool failed=updB l s L' fl dt pool failed:=by
 have h1:L.length=L'.length:=by have:=congrArg List.length h;simpa using this
 unfold updB chkB oneS
 rw[h1,all_cong posF L L' h,sumF_cong h,updL_cong L L' _ h]
theorem bestI_cong:∀(L L':List FR),L.map prV=L'.map prV→∀k,bestI L k=bestI L' k:=fun L L' h=>by
 have hg:∀i,(L.getD i zFR).l1=(L'.getD i zFR).l1∧(L.getD i zFR).l2=(L'.getD i zFR).l2:=fun i=>by
  have e:=congrArg (fun X=>X[i]?) h
  simp only[List.getElem?_map]at e
  rw[List.getD_eq_getElem?_getD,List.getD_eq_getElem?_getD]
  cases h1:L[i]? with
  | none=>
   cases h2:L'[i]? with
   | none=>exact ⟨rfl,rfl⟩
   | some y=>rw[h1,h2]at e;cases e
  | some x=>
   cases h2:L'[i]? with
   | none=>rw[h1,h2]at e;cases e
   | some y=>
    rw[h1,h2]at e
    have e:=Option.some.inj e
    exact (Prod.mk.injEq ..▸e:x.l1=y.l1∧x.l2=y.l2)
 intro k
 induction k with
 | zero=>rfl
 | succ k ih=>rw[bestI,bestI,ih,(hg k).1,(hg k).2,(hg (bestI L' k)).1,(hg (bestI L' k)).2]
def B1:BR:=⟨0,[-1,-1],[1,2],[(1,2),(1,2)]⟩
def B2:BR:=⟨0,[-1,-1],[1,2],[(3,4),(1,4)]⟩
theorem known1:newB [-1,-1] [qFR (1,2),qFR (1,2)] 1=B1:=by kernel_rfl
theorem known2:updB [-1,-1] [1,2] [qFR (1,2),qFR (1,2)] (opN (1,4)) (opN (3,4)) 1 true=B2:=by kernel_rfl
theorem known3:chkB [-1,-1] [1,2] [qFR (3,4),qFR (1,4)]=true:=by kernel_rfl
theorem known4:bestI [qFR (3,4),qFR (1,4)] 2=0:=by kernel_rfl
theorem FrzF.rng{K:AV→Hp→Mem→Prop}{H H2:Hp}{M':Mem}{k n:Nat}{T:TypeId}(cs:List Value)(h1:lkH H k=none)(h2:cs.length=n)(h3:hasK k (mentH H2)=false)(h4:lkH H2 k=none)(h:∀u M'',Mem.le M' M''→SlM M'' 1 u n cs→FreshS M' u→K (.ext (rngV u)) H2 M''):FrzF K H (.ag false [.slo k 0 n 1]) ((k,T,cs.map .ext) :: H2) M':=
 .inr ⟨some false,[],[],k,n,1,T,cs,H2,rfl,rfl,h4,h1,by omega,by simpa [mentL] using h3,h⟩
theorem chkB_cong{l s:List Int}{L L':List FR}(h:L.map prV=L'.map prV):chkB l s L=chkB l s L':=by
 have h1:L.length=L'.length:=by have:=congrArg List.length h;simpa using this
 unfold chkB oneS
 rw[h1,all_cong posF L L' h,sumF_cong h]
theorem okH:OkN (1,2):=⟨by decide,by decide,by decide,by decide⟩
section
variable {M:Mem}{K:AV→Hp→Mem→Prop}
theorem plain_frz(n:Nat)(hn:n≤100)(hK:∀u M',Mem.le M M'→IsL M' intV64 u (List.replicate n (-1))→FreshS M u→K (.ext (rngV u)) [] M'):CallS Tryz.prog 42 [.ext (.int .i64 (n:Int))] [] M [] K:=by
 refine CallS.frzF (plain_own n hn ?_)
 refine FrzF.rng ((List.replicate n (-1)).map intV64) rfl (by simp) rfl rfl (fun u M'' hM hs hf=>hK u M'' hM ?_ hf)
 unfold IsL
 rw[List.length_replicate];exact hs
theorem sml2_ok(n d:Nat)(hn:0<n)(hd:0<d)(hd2:d≤1000)(hn2:n≤1000)(hg:Nat.gcd n d=1)(hK:∀w1 w2 M',Mem.le M M'→IsF M' w1 w2 (ofN n) (ofN d)→K (.ext (.agg #[w1,w2])) [] M'):CallS Tryz.prog 13 [.ext (.int .i64 (n:Int)),.ext (.int .i64 (d:Int))] [] M [] K:=
 sml_ok n d (by omega) (by omega) (by omega) fun w1 w2 M' a1 a2 a3 _ _=>hK w1 w2 M' a1 (by
  rw[hg,Nat.div_one]at a2 a3
  exact isF_ofN a2 a3 ⟨(sm1000 (by omega)).len,(sm1000 (by omega)).len⟩)
theorem known35_ok(hK:∀M',Mem.le M M'→K (.ext (.bool true)) [] M'):CallS Tryz.prog 10 [] [] M [] K:=by
 refine inlS (cs:=[]) Tryz.mixed Tryz.func10 rfl (by kernel_rfl) 0 rfl rfl ?_
 simp only[Tryz.f10]
 refine sU ?_;(repeat' ((first|((with_reducible first|refine yN ?_|refine yM ?_);refine kS 13 (sml2_ok 1 2 (by decide) (by decide) (by decide) (by decide) (by decide) (fun v1 v2 M1 m1 f1=>Stop.mk ?_)))|((with_reducible refine isE 11 (by decide) ?_);refine dR ((1,[]) :: (2,[1]) :: (3,[]) :: (8,[1,2]) :: (0,[1,2]) :: (rP 4 4 [] [(9,[]),(10,[])])) (2 :: (rgL 10 8 [])) [] ?_)|((with_reducible refine isE 19 (by decide) ?_);refine dR ((0,[]) :: (8,[0]) :: (rP 1 3 [0] (rP 4 4 [] [(9,[]),(10,[])]))) (4 :: (rgL 18 8 [])) [] ?_)|((with_reducible refine isE 32 (by decide) ?_);refine dR (rP 0 21 [] ((21,[18,20]) :: (rP 22 8 [] ((30,[29]) :: (rP 31 3 [] []))))) (rgL 49 5 [61,62]) [] ?_)|refine oB ?_|fail)<;>refine sU ?_<;>try with_reducible exact tT))
 have m1:Mem.le M M1:=m1
 have p1:=f1.n.one
 have p2:=f1.d.one
 refine Stop.go ?_
 have hf:=A2 p1 p2;refine sF ?_;(repeat' ((first|((with_reducible refine yM ?_);refine kS 42 (plain_frz 2 (by decide) (fun u M2 m2 a2 _=>Stop.mk ?_)))|((with_reducible refine isE 11 (by decide) ?_);refine dR ((1,[]) :: (2,[1]) :: (3,[]) :: (8,[1,2]) :: (0,[1,2]) :: (rP 4 4 [] [(9,[]),(10,[])])) (2 :: (rgL 10 8 [])) [] ?_)|((with_reducible refine isE 19 (by decide) ?_);refine dR ((0,[]) :: (8,[0]) :: (rP 1 3 [0] (rP 4 4 [] [(9,[]),(10,[])]))) (4 :: (rgL 18 8 [])) [] ?_)|((with_reducible refine isE 32 (by decide) ?_);refine dR (rP 0 21 [] ((21,[18,20]) :: (rP 22 8 [] ((30,[29]) :: (rP 31 3 [] []))))) (rgL 49 5 [61,62]) [] ?_)|refine oB ?_|fail)<;>refine sF ?_<;>try with_reducible exact tT))<;>try clear hf
 have m2:Mem.le M1 M2:=m2
 have a2:IsL M2 intV64 u [-1,-1]:=a2
 have p3:=a2.one
 have f2:=f1.le m2
 have hok:okFL M2 [⟨v1,v2,ofN 1,ofN 2⟩,⟨v1,v2,ofN 1,ofN 2⟩]:=fun x hx=>by
  rcases List.mem_cons.1 hx with h|hx
  ·rw[h];exact f2
  ·rw[List.mem_singleton.1 hx];exact f2
 have hq:newB [-1,-1] [⟨v1,v2,ofN 1,ofN 2⟩,⟨v1,v2,ofN 1,ofN 2⟩] 1=B1:=(newB_cong (P':=[qFR (1,2),qFR (1,2)]) rfl).trans known1
 have hpr:([⟨v1,v2,ofN 1,ofN 2⟩,⟨v1,v2,ofN 1,ofN 2⟩]:List FR).all (fun x=>innF x.l1 x.l2)=true→([⟨v1,v2,ofN 1,ofN 2⟩,⟨v1,v2,ofN 1,ofN 2⟩]:List FR).length≤8→∀s,(prodV 1 1 (facG s 0 [⟨v1,v2,ofN 1,ofN 2⟩,⟨v1,v2,ofN 1,ofN 2⟩])).1=0:=fun _ _ s=>(newW_red (N:=[(1,2),(1,2)]) rfl (fun p hp=>by
  rcases List.mem_cons.1 hp with h|hp
  ·rw[h];exact okH
  ·rw[List.mem_singleton.1 hp];exact okH) (by decide) s).1
 refine Stop.go ?_
 have hf:=A4 p1 p2 p3 @rngV.eq_1;refine sF ?_;(repeat' ((first|((with_reducible first|refine yB ?_|refine yC ?_);first|refine kG 15 ?_|refine kS 15 (pnew_bor 14 2 _ 1 rfl a2 hok (by decide) (show 2<1000000 by decide) hpr (hq▸(fun wr ws ww M3 m3 g1 g2 g3=>Stop.mk ?_))))|refine oB ?_|fail)<;>refine sF ?_<;>try with_reducible exact tT))<;>try clear hf
 have m3:Mem.le M2 M3:=m3
 have g1:IsL M3 intV64 wr [-1,-1]:=g1
 have g2:IsL M3 intV64 ws [1,2]:=IsL.nat g2
 have g3:FQ M3 ww [(1,2),(1,2)]:=g3
 have c1:=g1.one
 have c2:=g2.one
 have c3:ww.oneCell'=true:=by obtain ⟨_,h,_,_⟩:=g3;exact h.one
 refine Stop.go ?_
 have hf:=A10 @B1.eq_1 @B2.eq_1 @frC_ment @frC_kill @hasK_nil p1 p2 c1 c2 c3;refine sF ?_;(repeat' ((first|((with_reducible first|refine yN ?_|refine yM ?_);refine kS 13 (sml2_ok 1 4 (by decide) (by decide) (by decide) (by decide) (by decide) (fun x1 x2 M4 m4 f4=>Stop.mk ?_)))|((with_reducible refine isE 11 (by decide) ?_);refine dR ((1,[]) :: (2,[1]) :: (3,[]) :: (8,[1,2]) :: (0,[1,2]) :: (rP 4 4 [] [(9,[]),(10,[])])) (2 :: (rgL 10 8 [])) [] ?_)|((with_reducible refine isE 19 (by decide) ?_);refine dR ((0,[]) :: (8,[0]) :: (rP 1 3 [0] (rP 4 4 [] [(9,[]),(10,[])]))) (4 :: (rgL 18 8 [])) [] ?_)|((with_reducible refine isE 32 (by decide) ?_);refine dR (rP 0 21 [] ((21,[18,20]) :: (rP 22 8 [] ((30,[29]) :: (rP 31 3 [] []))))) (rgL 49 5 [61,62]) [] ?_)|refine oB ?_|fail)<;>refine sF ?_<;>try with_reducible exact tT))<;>try clear hf
 have m4:Mem.le M3 M4:=m4
 have p4:=f4.n.one
 have p5:=f4.d.one
 refine Stop.go ?_
 have hf:=A12 @B1.eq_1 @B2.eq_1 @frC_ment @frC_kill @hasK_nil p1 p2 p4 p5 c1 c2 c3;refine sF ?_;(repeat' ((first|((with_reducible first|refine yN ?_|refine yM ?_);refine kS 13 (sml2_ok 3 4 (by decide) (by decide) (by decide) (by decide) (by decide) (fun y1 y2 M5 m5 f5=>Stop.mk ?_)))|refine oB ?_|fail)<;>refine sF ?_<;>try with_reducible exact tT))<;>try clear hf
 have m5:Mem.le M4 M5:=m5
 have p6:=f5.n.one
 have p7:=f5.d.one
 obtain ⟨L,l1,l2,l3⟩:=g3
 have hlL:L.length=2:=by have:=congrArg List.length l3;simpa using this
 have hLq:L.map prV=([qFR (1,2),qFR (1,2)]:List FR).map prV:=l3
 have hu:updB [-1,-1] [1,2] L (opN (1,4)) (opN (3,4)) 1 true=B2:=(updB_cong hLq).trans known2
 have f45:=f4.le m5
 have m45:=m4.trans m5
 have g15:=g1.le m45
 have g25:=g2.le m45
 have l15:=l1.le m45
 have l25:=l2.le m45
 refine Stop.go ?_
 have hf:=A12 @B1.eq_1 @B2.eq_1 @frC_ment @frC_kill @hasK_nil p1 p2 p4 p5 p6 p7 (A3 c1 c2 c3);refine sF ?_;(repeat' ((first|((with_reducible refine yM ?_);refine kS 21 (update_ok (fl:=opN (1,4)) (dt:=opN (3,4)) 1 true g15 g25 l15 l25 (by decide) (by decide) (by omega) f45 f5 (hu▸(fun ar at_ aw M6 m6 k1 k2 k3=>Stop.mk ?_))))|refine oB ?_|fail)<;>refine sF ?_<;>try with_reducible exact tT))<;>try clear hf
 have m6:Mem.le M5 M6:=m6
 have k1:IsL M6 intV64 ar [-1,-1]:=k1
 have k2:IsL M6 intV64 at_ [1,2]:=IsL.nat k2
 have k3:FQ M6 aw [(3,4),(1,4)]:=k3
 have c4:=k1.one
 have c5:=k2.one
 have c6:aw.oneCell'=true:=by obtain ⟨_,h,_,_⟩:=k3;exact h.one
 obtain ⟨L2,q1,q2,q3⟩:=k3
 have hl2:L2.length=2:=by have:=congrArg List.length q3;simpa using this
 have hLq2:L2.map prV=([qFR (3,4),qFR (1,4)]:List FR).map prV:=q3
 have hc2:chkB [-1,-1] [1,2] L2=true:=(chkB_cong hLq2).trans known3
 have hbi:bestI L2 2=0:=(bestI_cong L2 _ hLq2 2).trans known4
 have hg0:(L2.getD 0 zFR).l1=ofN 3∧(L2.getD 0 zFR).l2=ofN 4:=by
  rcases L2 with _|⟨X,r⟩
  ·cases hl2
  ·rw[List.map_cons,List.map_cons,List.cons.injEq]at hLq2
   exact (Prod.mk.injEq ..▸hLq2.1:X.l1=ofN 3∧X.l2=ofN 4)
 refine Stop.go ?_
 have hf:=A12 @B1.eq_1 @B2.eq_1 @frC_ment @frC_kill @hasK_nil p1 p2 c1 c2 c3 c4 (A2 c5 c6);refine sF ?_;(repeat' ((first|((with_reducible refine yN ?_);refine kS 36 (best_ok k1 k2 q1 q2 (by decide) (by decide) (by omega) hc2 (by decide) (by rw[hl2];rfl) (fun b1 b2 M7 m7 f7=>Stop.mk ?_)))|refine oB ?_|fail)<;>refine sF ?_<;>try with_reducible exact tT))<;>try clear hf
 have m7:Mem.le M6 M7:=m7
 have f7:IsF M7 b1 b2 (ofN 3) (ofN 4):=by
  have e:bestI L2 ([1,2]:List Int).length=0:=hbi
  rw[e,hg0.1,hg0.2]at f7
  exact f7
 have p8:=f7.n.one
 have p9:=f7.d.one
 have hs:([1,2]:List Int).getD (bestI L2 2) 0=1:=by rw[hbi];rfl
 have m37:Mem.le M3 M7:=m45.trans (m6.trans m7)
 have l17:=l1.le m37
 have l27:=l2.le m37
 have n7:=l17.len
 have s7:=l17.sl
 rw[hlL]at n7
 have k0:0<L.length:=by omega
 have nn:=l17.nn k0
 have at0:=l17.at (P:=Tryz.prog) (T:=27) (fun _=>rfl) tk27 tz27 k0
 have fz:=l27 _ (List.getElem_mem k0)
 have ez:L[0].l1=ofN 1∧L[0].l2=ofN 2:=by
  rcases L with _|⟨X,r⟩
  ·cases hlL
  ·rw[List.map_cons,List.map_cons,List.cons.injEq]at hLq
   exact (Prod.mk.injEq ..▸hLq.1:X.l1=ofN 1∧X.l2=ofN 2)
 rw[ez.1,ez.2]at fz
 generalize L[0]=X at *
 obtain ⟨z1,z2,w1,w2⟩:=X
 have at0:lookM Tryz.prog 27 M7 (elemP ww 2 0)=some (.agg #[z1,z2]):=at0
 have fz:IsF M7 z1 z2 (ofN 1) (ofN 2):=fz
 have r1:=fz.n.one
 have r2:=fz.d.one
 have f17:=(f2.le m3).le m37
 have ln1:(ofN 1).length<1000000000:=by have:=ofN1_len;omega
 have ln2:(ofN 2).length<1000000000:=by have:=(sm1000 (n:=2) (by omega)).len;omega
 have ln3:(ofN 3).length<1000000000:=by have:=(sm1000 (n:=3) (by omega)).len;omega
 have ln4:(ofN 4).length<1000000000:=by have:=(sm1000 (n:=4) (by omega)).len;omega
 have mM7:Mem.le M M7:=m1.trans (m2.trans (m3.trans m37))
 refine Stop.go ?_
 have hf:=A12 @B1.eq_1 @B2.eq_1 @frC_ment @frC_kill @hasK_nil hs p1 p2 p8 p9 c1 (A11 c2 c3 c4 c5 c6 n7 s7 nn at0 r1 r2);refine sF ?_;(repeat' ((first|((with_reducible refine yM ?_);refine kS 26 (sameFrac_ok fz.n fz.d f17.n f17.d ln1 ln2 (Stop.mk ?_)))|((with_reducible refine isE 11 (by decide) ?_);refine dR ((1,[]) :: (2,[1]) :: (3,[]) :: (8,[1,2]) :: (0,[1,2]) :: (rP 4 4 [] [(9,[]),(10,[])])) (2 :: (rgL 10 8 [])) [] ?_)|((with_reducible refine isE 19 (by decide) ?_);refine dR ((0,[]) :: (8,[0]) :: (rP 1 3 [0] (rP 4 4 [] [(9,[]),(10,[])]))) (4 :: (rgL 18 8 [])) [] ?_)|((with_reducible refine isE 32 (by decide) ?_);refine dR (rP 0 21 [] ((21,[18,20]) :: (rP 22 8 [] ((30,[29]) :: (rP 31 3 [] []))))) (rgL 49 5 [61,62]) [] ?_)|refine oB ?_|fail)<;>refine sF ?_<;>try with_reducible exact tT))<;>try clear hf
 refine Stop.go ?_
 have hf:=A12 @B1.eq_1 @B2.eq_1 @frC_ment @frC_kill @hasK_nil hs p1 p2 p8 p9 c1 (A11 c2 c3 c4 c5 c6 n7 s7 nn at0 r1 r2);refine sF ?_;(repeat' ((first|((with_reducible first|refine yN ?_|refine yM ?_);refine kS 13 (sml2_ok 3 4 (by decide) (by decide) (by decide) (by decide) (by decide) (fun e1 e2 M8 m8 f8=>Stop.mk ?_)))|refine oB ?_|fail)<;>refine sF ?_<;>try with_reducible exact tT))<;>try clear hf
 have m8:Mem.le M7 M8:=m8
 have r3:=f8.n.one
 have r4:=f8.d.one
 have f78:=f7.le m8
 have hk:=hK M8 (mM7.trans m8)
 refine Stop.go ?_
 have hf:=A7 @frC_ment @frC_kill @hasK_nil p8 p9 r3 r4;refine sF ?_;(repeat' ((first|((with_reducible refine yM ?_);refine kS 26 (sameFrac_ok f78.n f78.d f8.n f8.d ln3 ln4 (Stop.mk ?_)))|refine oB ?_|fail)<;>refine sF ?_<;>try with_reducible exact tT))<;>try clear hf
 refine Stop.go ?_
 have hf:=A7 @frC_ment @frC_kill @hasK_nil p8 p9 r3 r4;refine sF ?_;(repeat' ((first|refine oB ?_|fail)<;>refine sF ?_<;>try with_reducible exact tT))<;>try clear hf
 exact hk
end
theorem Fz.flatO{z:St}{B:St→Prop}{k n w:Nat}{T:TypeId}(t off:Nat)(cs:List Value)(E:Env)(R:Hp)(ht:lk z.env t=.slo k off n w)(hk:lkH z.hp k=some (T,cs.map .ext))(hn:off+n*w≤cs.length)(hkb:z.kb≤k)
  (hE:subE E z.env) (hE1:hasK k (mentE E)=false) (hR:subHp R z.hp) (hR1:hasK k (mentH R)=false) (hkeep:keepLt z.kb R z.hp) (hfx:∀k,k<z.kb→(lkH z.hp k).isSome=true→k∈z.fx)
  (h:∀M' U,Mem.le z.M M'→SlM M' w U n ((cs.drop off).take (n*w))→FreshS z.M U→B {env:=(t,.ext U) :: E,hp:=R,M:=M',kb:=z.kb,fx:=z.fx,fr:=z.fr}):Fz z B:=by
 have hlk:∀j x,lkH [(k,T,cs.map AV.ext)] j=some x→j=k∧x=(T,cs.map .ext):=fun j x h=>by
  simp only[lkH]at h
  split at h
  ·rename_i e;cases h;exact ⟨e.symm,rfl⟩
  ·cases h
 have hc:closedH [(k,T,cs.map AV.ext)]:=fun j T' ds q hj hq=>by
  obtain ⟨_,e⟩:=hlk j _ hj
  cases e
  rw[mentL_ext]at hq;cases hq
 have hs:∀j,(lkH [(k,T,cs.map AV.ext)] j).isSome=true→j=k:=fun j hj=>by
  obtain ⟨x,hx⟩:=Option.isSome_iff_exists.1 hj
  exact (hlk j x hx).1
 refine Fz.frz [(k,T,cs.map .ext)] [t] E R hc (fun j x hx=>?_) hE (fun j h1 h2=>?_) hR (fun j h1 h2=>?_) hkeep hfx (fun M' ρ v us hM hh hu=>?_)
 ·obtain ⟨rfl,rfl⟩:=hlk j x hx
  exact ⟨hk,hkb⟩
 ·exact hasK_no.1 hE1 (hs j h1▸h2)
 ·exact hasK_no.1 hR1 (hs j h1▸h2)
 ·have h1:=hu t
  rw[ht]at h1
  have h2:=borI_is hh _ _ (fun j hj=>by
   have:j=k:=by simpa [AV.ment] using hj
   subst this
   simp[lkH]) h1
  obtain ⟨h3,h4⟩:=h2
  have h5:=h4 T cs (by simp[lkH]) (by omega)
  exact h M' (us t) hM h5 h3
theorem okFL_set{M:Mem}{L:List FR}{i:Nat}{x:FR}(h:okFL M L)(hx:IsF M x.u1 x.u2 x.l1 x.l2):okFL M (L.set i x):=fun y hy=>by
 rcases List.mem_or_eq_of_mem_set hy with h1|h1
 ·exact h y h1
 ·rw[h1];exact hx
theorem frC_dropF:∀(Q:List FR) (o:Nat),(Q.flatMap FR.c).drop (o*2)=(Q.drop o).flatMap FR.c
 | Q,0=>by simp
 | [],o+1=>by simp
 | x :: r,o+1=>by
  rw[List.drop_succ_cons,←frC_dropF r o,List.flatMap_cons,Nat.succ_mul,Nat.add_comm,←List.drop_drop]
  rfl
def szF:List FR→Nat
 | []=>0
 | x :: r=>x.l1.length+x.l2.length+szF r
theorem szF_take:∀{L:List FR} {k:Nat} (h:k<L.length),szF (L.take (k+1))=szF (L.take k)+(L[k].l1.length+L[k].l2.length)
 | x :: r,0,_=>by simp[szF]
 | x :: r,k+1,h=>by
  simp only[List.take_succ_cons,szF,List.getElem_cons_succ]
  rw[szF_take (L:=r) (by simpa using h)]
  omega
theorem szF_mem:∀{L:List FR} {x:FR},x∈L→x.l1.length≤szF L∧x.l2.length≤szF L
 | y :: r,x,h=>by
  rw[szF]
  rcases List.mem_cons.1 h with rfl|h
  ·omega
  ·have:=szF_mem h;omega
theorem szF_le:∀{L:List FR},(∀x∈L,x.l1.length≤140737488351232∧x.l2.length≤140737488351232)→szF L≤L.length*(2*140737488351232)
 | [],_=>by simp[szF]
 | x :: r,h=>by
  have h1:=h x (List.mem_cons_self ..)
  have h2:=szF_le (L:=r) fun y hy=>h y (List.mem_cons_of_mem _ hy)
  rw[szF,List.length_cons,Nat.succ_mul]
  omega
section
variable {M:Mem}{K:AV→Hp→Mem→Prop}
def nwtSt(M:Mem)(ur uw:Value)(most:Int)(X:List Int)(Q:List FR)(n o:Nat):St:={env:=[(16,.slo 69 (o*2) (n-o) 2),(14,.own 14 0),(12,.own 12 0),(8,.ext (.bool false)),(2,.ext (.int .i64 most)),(1,.ext uw)],hp:=[(69,27,frC Q),(62,3,cE intV64 X),(14,33,[.slo 62 0 n 1]),(12,33,[.ext ur])],M:=M,kb:=0,fx:=[]}
def nwlSt(M:Mem)(v w ur uw:Value)(most m2:Int)(j:Nat):St:={env:=[(104,.ext (.int .i64 (j:Int))),(103,.ext (.int .i64 2)),(102,.slo 102 0 2 1),(16,.ext w),(14,.own 14 0),(12,.own 12 0),(8,.ext (.bool false)),(1,.ext uw)],hp:=[(102,3,[.ext (.int .i64 most),.ext (.int .i64 m2)]),(14,33,[.ext v]),(12,33,[.ext ur])],M:=M,kb:=0,fx:=[]}
def nwsSt(M:Mem)(u uw:Value)(most at_ a:Int)(i:Nat):St:={env:=[(10,.ext (.int .i64 (i:Int))),(9,.ext (.int .i64 a)),(8,.ext (.bool false)),(3,.ext (.int .i64 at_)),(2,.ext (.int .i64 most)),(1,.ext uw),(0,.ext u)],hp:=[],M:=M,kb:=0,fx:=[]}
theorem pnews_ok(u uw:Value)(t:List Int)(R:List FR)(most at_:Int)(hu:IsL M intV64 u t)(hR:IsR M 2 FR.c uw R)(hRl:R.length≤140737488351232)(hRo:∀x∈R,RawF M x)(hK:∀M',Mem.le M M'→K (.ext (.bool true)) [] M'):CallS Tryz.prog 3 [.ext u,.ext uw,.ext (.int .i64 most),.ext (.int .i64 at_)] [] M [] K:=by
 refine inlS (cs:=[23]) Tryz.mixed Tryz.func3 rfl (by kernel_rfl) 0 rfl rfl ?_
 simp only[Tryz.f3]
 have o1:=hu.one
 have o2:=hR.one
 have n2:=hR.len
 have s2:=hR.sl
 (try with_reducible refine Fz.of ?_);have hf:=A2 o1 o2;refine sF ?_;(repeat' ((first|refine oB ?_|fail)<;>refine sF ?_<;>try with_reducible exact tT))<;>try clear hf
 refine ⟨fun m z=>∃a i,m=R.length-i∧i≤R.length∧(R.length≤8→a=(szF (R.take i):Int))∧z=nwsSt M u uw most at_ a i,
  ⟨R.length,nwsSt M u uw most at_ 0 0,le_sub ⟨rfl,rfl,rfl,rfl,rfl,rfl,rfl,trivial⟩ trivial rfl rfl rfl (keepLt0 _),⟨0,0,by omega,by omega,fun _=>by simp[szF],rfl⟩⟩,?_⟩
 rintro m z ⟨a,i,rfl,hi,ha,rfl⟩
 by_cases hlt:i<R.length
 ·have z0:decide ((i:Int)<(R.length:Int))=true:=by rw[decide_eq_true_eq];omega
  have z1:(0:Int)≤(i:Int):=by omega
  have z2:(i:Int)<(R.length:Int):=by omega
  have wi:IntKind.i64.wrap ((i:Int)+1)=((i+1:Nat):Int):=succ_i (by omega)
  have hnn:=hR.nn hlt
  have hpt:=hR.pt hlt
  have at0:=hR.atF (P:=Tryz.prog) (T:=25) (fun _=>rfl) tk25 tz25 hlt (o:=0) rfl
  have at1:=hR.atF (P:=Tryz.prog) (T:=25) (fun _=>rfl) tk25 tz25 hlt (o:=1) rfl
  have hx:=hRo _ (List.getElem_mem hlt)
  have hst:=szF_take hlt
  have hsz:R.length≤8→szF (R.take (i+1))≤2251799813619712:=fun h8=>by
   have h1:=szF_le (L:=R.take (i+1)) fun x hx=>⟨(hRo x (List.mem_of_mem_take hx)).bn,(hRo x (List.mem_of_mem_take hx)).bd⟩
   have h2:(R.take (i+1)).length≤8:=Nat.le_trans (List.length_take_le' ..) h8
   have h3:=Nat.mul_le_mul_right (2*140737488351232) h2
   omega
  generalize R[i]=x at *
  have e1:=hx.n.len
  have e2:=hx.d.len
  have e3:=hx.n.sl
  have e4:=hx.d.sl
  have p1:=hx.n.one
  have p2:=hx.d.one
  have hb1:=hx.bn
  have hb2:=hx.bd
  (try with_reducible refine Fz.of ?_);have hf:=A12 @nwsSt.eq_1 z0 z1 z2 wi hnn hpt at0 at1 e1 e2 (A8 e3 e4 p1 p2 n2 s2 o1 o2);refine sF ?_;(repeat' ((first|((with_reducible refine isE 33 (by decide) ?_);refine dR (rP 0 7 [] (rP 7 6 [5] (rP 13 3 [] []))) (rgL 33 14 []) [] ?_)|refine oB ?_|fail)<;>refine sF ?_<;>try with_reducible exact tT))<;>try clear hf
  exact ⟨R.length-(i+1),nwsSt M u uw most at_ (IntKind.i64.wrap (a+IntKind.i64.wrap ((x.l1.length:Int)+(x.l2.length:Int)))) (i+1),by omega,le_sub ⟨rfl,rfl,rfl,rfl,rfl,rfl,rfl,trivial⟩ trivial rfl rfl rfl (keepLt0 _),_,i+1,rfl,by omega,fun h8=>by
   have h1:=ha h8
   have h2:=hsz h8
   rw[h1,wrap_id (x:=(x.l1.length:Int)+(x.l2.length:Int)) (by omega) (by omega),wrap_id (by omega) (by omega),hst]
   omega,rfl⟩
 obtain rfl:i=R.length:=by omega
 have z0:decide ((R.length:Int)<(R.length:Int))=false:=by simp
 rw[List.take_length]at ha
 by_cases hg:200<a
 ·have d0:decide (200<a)=true:=decide_eq_true hg
  (try with_reducible refine Fz.of ?_);have hf:=A7 @nwsSt.eq_1 z0 d0 n2 s2 o1 o2;refine sF ?_;(repeat' ((first|((with_reducible refine yN ?_);refine kS 10 (known35_ok (fun M3 m3=>Stop.mk ?_)))|refine oB ?_|fail)<;>refine sF ?_<;>try with_reducible exact tT))<;>try clear hf
  have hk:=hK M3 m3
  refine Stop.go ?_
  (try with_reducible refine Fz.of ?_);have hf:=o1;refine sF ?_;(repeat' ((first|refine oB ?_|fail)<;>refine sF ?_<;>try with_reducible exact tT))<;>try clear hf
  exact hk
 have d0:decide (200<a)=false:=decide_eq_false hg
 have hRF:R.length≤8→okFL M R:=fun h8 x hx=>by
  have h1:=ha h8
  have h2:=szF_mem hx
  have h3:=hRo x hx
  exact ⟨h3.n,h3.d,h3.on,h3.od,by omega,by omega⟩
 (try with_reducible refine Fz.of ?_);have hf:=A7 @nwsSt.eq_1 z0 d0 n2 s2 o1 o2;refine sF ?_;(repeat' ((first|((with_reducible first|refine yA ?_|refine yC ?_);first|refine kH 11 ?_|refine kS 11 (some53_ok u t 8 (by decide) (by decide) hu (fun l n p ur up M1 P hc hln hp m1 h1 h2 h3=>Stop.mk ?_)))|refine oB ?_|fail)<;>refine sF ?_<;>try with_reducible exact tT))<;>try clear hf
 have m1:Mem.le M M1:=m1
 subst hln
 have hl8:=chk_len hc
 have c1:=h1.one
 have c2:=h2.one
 have n1:=h1.len
 have s1:=h1.sl
 have n3:=h2.len
 have s3:=h2.sl
 rw[h3.len]at n3
 have rw1:=h1.row
 have rw2:=h2.row
 obtain ⟨f1,f2⟩:=foldI_bd1 at_ (l.length:Int) (by omega) (by omega)
 have hPl:=h3.len
 have hPo:=h3.ok
 have e1:(l.map intV64).map AV.ext=cE intV64 l:=rfl
 have e2:(P.flatMap FR.c).map AV.ext=frC P:=rfl
 have a1:allOne (cE intV64 l)=True:=eq_true (allOne_cE intV64 (fun _=>rfl) l)
 have a2:=frC_one hPo
 refine Stop.go ?_
 (try with_reducible refine Fz.of ?_);have hf:=A12 e1 e2 a1 a2 c1 c2 n1 s1 n3 s3 o1 (A8 o2 rw1 rw2 @frC_ment @frC_kill @cE_ment @cE_kill @hasK_nil);refine sF ?_;(repeat' ((first|((with_reducible refine yN ?_);refine kS 12 (fold_ok _ _ ?_))|refine oB ?_|fail)<;>refine sF ?_<;>try with_reducible exact tT))<;>try clear hf
 obtain ⟨ii,hii⟩:=Int.eq_ofNat_of_zero_le f1
 rw[hii]at f2
 refine ⟨fun z=>∃M' X Q o,Mem.le M1 M'∧X.length=l.length∧Q.length=l.length∧o≤1∧okFL M' Q∧z=nwtSt M' ur uw most X Q l.length o,?_,?_⟩
 ·have z1:(0:Int)≤(ii:Int):=by omega
  have z2:(ii:Int)<(l.length:Int):=by omega
  have hfold:foldI at_ (l.length:Int)=(ii:Int):=hii
  have e3:=frC_len P
  rw[hPl]at e3
  have e4:=cE_len intV64 l
  have hin:ii*2+2≤l.length*2:=by omega
  have hio:ii+1≤l.length:=by omega
  (try with_reducible refine Fz.of ?_);have hf:=A12 hfold e1 e2 c1 c2 n1 s1 n3 s3 o1 o2 (A5 @frC_ment @frC_kill @cE_ment @cE_kill @hasK_nil);refine sF ?_;(repeat' ((first|((with_reducible refine yN ?_);refine kS 12 (fold_ok _ _ (Stop.mk ?_)))|refine oB ?_|fail)<;>refine sF ?_<;>try with_reducible exact tT))<;>try clear hf
  generalize foldI _ 6=v
  by_cases v0:v=0
  ·have d0:decide (v=0)=true:=decide_eq_true v0
   have hset:(cE intV64 l).set ii (.ext (.int .i64 (ii:Int)))=cE intV64 (l.set ii (ii:Int)):=cE_set intV64 l ii (ii:Int)
   refine Stop.go ?_
   (try with_reducible refine Fz.of ?_);have hf:=A12 d0 hset z1 z2 e3 e4 hio c1 c2 n1 s1 (A10 n3 s3 o1 o2 @frC_ment @frC_kill @cE_ment @cE_kill @hasK_nil @Nat.mul_one);refine sF ?_;(repeat' ((first|((with_reducible refine isE 33 (by decide) ?_);refine dR (rP 0 7 [] (rP 7 6 [5] (rP 13 3 [] []))) (rgL 33 14 []) [] ?_)|refine oB ?_|fail)<;>refine sF ?_<;>try with_reducible exact tT))<;>try clear hf
   exact ⟨nwtSt M1 ur uw most (l.set ii (ii:Int)) P l.length 0,le_sub ⟨rfl,rfl,rfl,rfl,rfl,rfl,trivial⟩ ⟨rfl,rfl,rfl,rfl,trivial⟩ rfl rfl rfl (keepLt0 _),M1,l.set ii (ii:Int),P,0,Mem.le.refl _,List.length_set,hPl,by omega,hPo,rfl⟩
  have d0:decide (v=0)=false:=decide_eq_false v0
  by_cases v1:v=1
  ·have d1:decide (v=1)=true:=decide_eq_true v1
   refine Stop.go ?_
   (try with_reducible refine Fz.of ?_);have hf:=A12 d0 d1 z1 z2 e3 e4 hio c1 c2 n1 s1 (A10 n3 s3 o1 o2 @frC_ment @frC_kill @cE_ment @cE_kill @hasK_nil @Nat.mul_one);refine sF ?_;(repeat' ((first|((with_reducible first|refine yA ?_|refine yC ?_);first|refine kH 14 ?_|refine kS 14 (nextI_ok 53 u t p 2 (hu.le m1) (by omega) (by omega) (by omega) (fun x hx0 hx1=>Stop.mk ?_)))|((with_reducible refine isE 33 (by decide) ?_);refine dR (rP 0 7 [] (rP 7 6 [5] (rP 13 3 [] []))) (rgL 33 14 []) [] ?_)|refine oB ?_|fail)<;>refine sF ?_<;>try with_reducible exact tT))<;>try clear hf
   obtain ⟨y,rfl⟩:=Int.eq_ofNat_of_zero_le hx0
   refine Stop.go ?_
   (try with_reducible refine Fz.of ?_);have hf:=A12 d0 d1 z1 z2 e3 e4 hio c1 c2 n1 s1 (A10 n3 s3 o1 o2 @frC_ment @frC_kill @cE_ment @cE_kill @hasK_nil @Nat.mul_one);refine sF ?_;(repeat' ((first|((with_reducible refine yN ?_);refine kS 13 (sml_ok y 1 (by omega) (by omega) (by omega) (fun w1 w2 M2 m2 g1 g2 _ _=>Stop.mk ?_)))|refine oB ?_|fail)<;>refine sF ?_<;>try with_reducible exact tT))<;>try clear hf
   have m2:Mem.le M1 M2:=m2
   have gF:IsF M2 w1 w2 (ofN (y / Nat.gcd y 1)) (ofN (1 / Nat.gcd y 1)):=isF_ofN g1 g2 (by rw[Nat.gcd_one_right,Nat.div_one,Nat.div_one];exact ⟨(sm1000 (by omega)).len,(sm1000 (by omega)).len⟩)
   have q1:=g1.one
   have q2:=g2.one
   have hst:=frC_setF (L:=P) (i:=ii) (by omega) ⟨w1,w2,ofN (y / Nat.gcd y 1),ofN (1 / Nat.gcd y 1)⟩
   refine Stop.go ?_
   (try with_reducible refine Fz.of ?_);have hf:=A12 d0 d1 z1 z2 e3 e4 hio hin hst q1 q2 (A12 c1 c2 n1 s1 n3 s3 o1 o2 @frC_ment @frC_kill @cE_ment (A4 @cE_kill @hasK_nil @Nat.mul_one @Nat.zero_add));refine sF ?_;(repeat' ((first|refine oB ?_|fail)<;>refine sF ?_<;>try with_reducible exact tT))<;>try clear hf
   exact ⟨nwtSt M2 ur uw most l (P.set ii ⟨w1,w2,ofN (y / Nat.gcd y 1),ofN (1 / Nat.gcd y 1)⟩) l.length 0,le_sub ⟨rfl,rfl,rfl,rfl,rfl,rfl,trivial⟩ ⟨rfl,rfl,rfl,rfl,trivial⟩ rfl rfl rfl (keepLt0 _),M2,l,_,0,m2,rfl,by rw[List.length_set];exact hPl,by omega,okFL_set (hPo.le m2) gF,rfl⟩
  have d1:decide (v=1)=false:=decide_eq_false v1
  by_cases v2:v=2
  ·have d2:decide (v=2)=true:=decide_eq_true v2
   refine Stop.go ?_
   (try with_reducible refine Fz.of ?_);have hf:=A12 d0 d1 d2 e3 e4 c1 c2 n1 s1 n3 s3 (A8 o1 o2 @frC_ment @frC_kill @cE_ment @cE_kill @hasK_nil @Nat.mul_one);refine sF ?_;(repeat' ((first|((with_reducible refine isE 33 (by decide) ?_);refine dR (rP 0 7 [] (rP 7 6 [5] (rP 13 3 [] []))) (rgL 33 14 []) [] ?_)|refine oB ?_|fail)<;>refine sF ?_<;>try with_reducible exact tT))<;>try clear hf
   exact ⟨nwtSt M1 ur uw most l P l.length 1,le_sub ⟨rfl,rfl,rfl,rfl,rfl,rfl,trivial⟩ ⟨rfl,rfl,rfl,rfl,trivial⟩ rfl rfl rfl (keepLt0 _),M1,l,P,1,Mem.le.refl _,rfl,hPl,by omega,hPo,rfl⟩
  have d2:decide (v=2)=false:=decide_eq_false v2
  by_cases v3:v=3
  ·have d3:decide (v=3)=true:=decide_eq_true v3
   refine Stop.go ?_
   (try with_reducible refine Fz.of ?_);have hf:=A12 d0 d1 d2 d3 z1 z2 e3 e4 hio c1 c2 (A12 n1 s1 n3 s3 o1 o2 @frC_ment @frC_kill @cE_ment @cE_kill @hasK_nil @Nat.mul_one);refine sF ?_;(repeat' ((first|((with_reducible refine yN ?_);refine kS 13 (sml_ok 1 1001 (by decide) (by decide) (by decide) (fun w1 w2 M2 m2 g1 g2 _ _=>Stop.mk ?_)))|refine oB ?_|fail)<;>refine sF ?_<;>try with_reducible exact tT))<;>try clear hf
   have m2:Mem.le M1 M2:=m2
   have gF:IsF M2 w1 w2 (ofN (1 / Nat.gcd 1 1001)) (ofN (1001 / Nat.gcd 1 1001)):=isF_ofN g1 g2 ⟨(sm1000 (by decide)).len,(sm1000 (by decide)).len⟩
   have q1:=g1.one
   have q2:=g2.one
   have hst:=frC_setF (L:=P) (i:=ii) (by omega) ⟨w1,w2,ofN (1 / Nat.gcd 1 1001),ofN (1001 / Nat.gcd 1 1001)⟩
   refine Stop.go ?_
   (try with_reducible refine Fz.of ?_);have hf:=A12 d0 d1 d2 d3 z1 z2 e3 e4 hio hin hst (A12 q1 q2 c1 c2 n1 s1 n3 s3 o1 o2 @frC_ment (A6 @frC_kill @cE_ment @cE_kill @hasK_nil @Nat.mul_one @Nat.zero_add));refine sF ?_;(repeat' ((first|refine oB ?_|fail)<;>refine sF ?_<;>try with_reducible exact tT))<;>try clear hf
   exact ⟨nwtSt M2 ur uw most l (P.set ii ⟨w1,w2,ofN (1 / Nat.gcd 1 1001),ofN (1001 / Nat.gcd 1 1001)⟩) l.length 0,le_sub ⟨rfl,rfl,rfl,rfl,rfl,rfl,trivial⟩ ⟨rfl,rfl,rfl,rfl,trivial⟩ rfl rfl rfl (keepLt0 _),M2,l,_,0,m2,rfl,by rw[List.length_set];exact hPl,by omega,okFL_set (hPo.le m2) gF,rfl⟩
  have d3:decide (v=3)=false:=decide_eq_false v3
  refine Stop.go ?_
  (try with_reducible refine Fz.of ?_);have hf:=A12 d0 d1 d2 d3 e3 e4 c1 c2 n1 s1 n3 (A9 s3 o1 o2 @frC_ment @frC_kill @cE_ment @cE_kill @hasK_nil @Nat.mul_one);refine sF ?_;(repeat' ((first|refine oB ?_|fail)<;>refine sF ?_<;>try with_reducible exact tT))<;>try clear hf
  exact ⟨nwtSt M1 ur uw most l P l.length 0,le_sub ⟨rfl,rfl,rfl,rfl,rfl,rfl,trivial⟩ ⟨rfl,rfl,rfl,rfl,trivial⟩ rfl rfl rfl (keepLt0 _),M1,l,P,0,Mem.le.refl _,rfl,hPl,by omega,hPo,rfl⟩
 rintro z ⟨M2,X,Q,o,m2,hXl,hQl,ho,hQo,rfl⟩
 refine Fz.bind (Fz.cell (k:=62) (j:=14) (n:=l.length) (q:=1) (T:=3) (T0:=33) (X.map intV64) [(16,.slo 69 (o*2) (l.length-o) 2),(14,.own 14 0),(12,.own 12 0),(8,.ext (.bool false)),(2,.ext (.int .i64 most)),(1,.ext uw)] [(69,27,frC Q),(12,33,[.ext ur])] rfl rfl (by rw[List.length_map,hXl,Nat.mul_one]) (Nat.zero_le _) (by decide) ⟨rfl,rfl,rfl,rfl,rfl,rfl,trivial⟩ (by simp[mentE,AV.ment]) ⟨rfl,rfl,trivial⟩ (by simp[mentH,mentL,AV.ment,frC_ment]) (keepLt0 _) (fun j hj _=>absurd hj (Nat.not_lt_zero _)) (fun M3 v m3 hv _=>?_))
 have m3:Mem.le M2 M3:=m3
 refine Fz.flatO (k:=69) (n:=l.length-o) (w:=2) (T:=27) 16 (o*2) (Q.flatMap FR.c) [(14,.own 14 0),(12,.own 12 0),(8,.ext (.bool false)),(2,.ext (.int .i64 most)),(1,.ext uw)] [(14,33,[.ext v]),(12,33,[.ext ur])] rfl rfl (by rw[flat_len (z:=2) (f:=FR.c) (fun _=>rfl),hQl];omega) (Nat.zero_le _) ⟨rfl,rfl,rfl,rfl,rfl,trivial⟩ rfl ⟨rfl,rfl,trivial⟩ rfl (keepLt0 _) (fun j hj _=>absurd hj (Nat.not_lt_zero _)) (fun M4 w m4 hw _=>?_)
 have m4:Mem.le M3 M4:=m4
 have hv1:IsL M3 intV64 v X:=by unfold IsL;rw[hXl];exact hv
 have hw1:IsR M4 2 FR.c w (Q.drop o):=by
  unfold IsR
  rw[List.length_drop,hQl]
  have e:((Q.flatMap FR.c).drop (o*2)).take ((l.length-o)*2)=(Q.drop o).flatMap FR.c:=by
   rw[frC_dropF,List.take_of_length_le (by rw[flat_len (z:=2) (f:=FR.c) (fun _=>rfl),List.length_drop,hQl];omega)]
  rw[←e];exact hw
 have hQd:okFL M4 (Q.drop o):=fun x hx=>((hQo x (List.mem_of_mem_drop hx)).le m3).le m4
 have p1:=hv1.one
 have p2:=hw1.one
 obtain ⟨g1,g2⟩:=foldI_bd1 most 2 (by omega) (by omega)
 have wf:IntKind.i64.wrap (1+foldI most 2)=1+foldI most 2:=wrap_id (by omega) (by omega)
 (try with_reducible refine Fz.of ?_);have hf:=A7 @nwtSt.eq_1 wf p1 p2 c1 o1 o2;refine sF ?_;(repeat' ((first|((with_reducible refine yN ?_);refine kS 12 (fold_ok _ _ ?_))|refine oB ?_|fail)<;>refine sF ?_<;>try with_reducible exact tT))<;>try clear hf
 generalize 1+foldI most 2=m2' at *
 refine ⟨fun m z=>∃M' j,m=2-j∧j≤2∧Mem.le M4 M'∧z=nwlSt M' v w ur uw most m2' j,
  ⟨2,nwlSt M4 v w ur uw most m2' 0,le_sub ⟨rfl,rfl,rfl,rfl,rfl,rfl,rfl,rfl,trivial⟩ ⟨rfl,rfl,rfl,trivial⟩ rfl rfl rfl (keepLt0 _),⟨M4,0,rfl,by omega,Mem.le.refl _,rfl⟩⟩,?_⟩
 rintro m z ⟨M5,j,rfl,hj,m5,rfl⟩
 have hMM:Mem.le M M4:=m1.trans (m2.trans (m3.trans m4))
 by_cases hj2:j<2
 case neg=>
  obtain rfl:j=2:=by omega
  (try with_reducible refine Fz.of ?_);have hf:=A6 @nwlSt.eq_1 p1 p2 c1 o1 o2;refine sF ?_;(repeat' ((first|((with_reducible refine yN ?_);refine kS 10 (known35_ok (fun M6 m6=>Stop.mk ?_)))|refine oB ?_|fail)<;>refine sF ?_<;>try with_reducible exact tT))<;>try clear hf
  have hk:=hK M6 (hMM.trans (m5.trans m6))
  refine Stop.go ?_
  (try with_reducible refine Fz.of ?_);have hf:=o1;refine sF ?_;(repeat' ((first|refine oB ?_|fail)<;>refine sF ?_<;>try with_reducible exact tT))<;>try clear hf
  exact hk
 have z0:decide ((j:Int)<2)=true:=by rw[decide_eq_true_eq];omega
 have z1:(0:Int)≤(j:Int):=by omega
 have z2:(j:Int)<2:=by omega
 have wj:IntKind.i64.wrap ((j:Int)+1)=((j+1:Nat):Int):=succ_i (by omega)
 obtain ⟨k,hat⟩:∃k:Int,([.ext (.int .i64 most),.ext (.int .i64 m2')]:List AV)[j]? = some (.ext (.int .i64 k)):=by
  rcases (by omega:j=0∨j=1) with rfl|rfl
  ·exact ⟨most,rfl⟩
  ·exact ⟨m2',rfl⟩
 have hjo:j+1≤2:=by omega
 have hv5:=(hv1.le m4).le m5
 have hw5:=hw1.le m5
 have hdl:(Q.drop o).length≤8:=by rw[List.length_drop];omega
 have hp1:NewP (newB X (Q.drop o) k):=newB_p fun x hx=>⟨(hQd x hx).on,(hQd x hx).od⟩
 (try with_reducible refine Fz.of ?_);have hf:=A12 @nwlSt.eq_1 z0 hat z1 z2 hjo wj p1 p2 c1 o1 (A2 o2 @Nat.mul_one);refine sF ?_;(repeat' ((first|((with_reducible refine yN ?_);refine kS 15 (pnewA_ok k hv5 hw5 (by omega) (by omega) (fun _=>hQd.le m5) (fun ar as_ aw M6 m6 a3 a4 a5=>Stop.mk ?_)))|refine oB ?_|fail)<;>refine sF ?_<;>try with_reducible exact tT))<;>try clear hf
 have m6:Mem.le M5 M6:=m6
 have gA:IsB M6 ar as_ aw (newB X (Q.drop o) k).l (newB X (Q.drop o) k).s (newB X (Q.drop o) k).q:=⟨a3,a4,a5⟩
 clear a3 a4 a5
 have q1:=gA.l.one
 have q2:=gA.s.one
 have q3:=gA.q.one
 refine Stop.go ?_
 (try with_reducible refine Fz.of ?_);have hf:=A12 q1 q2 q3 z1 z2 hjo wj p1 p2 c1 o1 (A2 o2 @Nat.mul_one);refine sF ?_;(repeat' ((first|((with_reducible refine yN ?_);refine kS 16 (rnewA_ok k (hv5.le m6) (hw5.le m6) (by omega) (by omega) (fun _=>(hQd.le m5).le m6) (fun br bs bw M7 m7 a3 a4 a5=>Stop.mk ?_)))|refine oB ?_|fail)<;>refine sF ?_<;>try with_reducible exact tT))<;>try clear hf
 have m7:Mem.le M6 M7:=m7
 have gB:IsB M7 br bs bw (newB X (Q.drop o) k).l (newB X (Q.drop o) k).s (newB X (Q.drop o) k).q:=⟨a3,a4,a5⟩
 clear a3 a4 a5
 have q4:=gB.l.one
 have q5:=gB.s.one
 have q6:=gB.q.one
 generalize newB X (Q.drop o) k=r at *
 have m17:=m2.trans (m3.trans (m4.trans (m5.trans (m6.trans m7))))
 have hR7:=hR.le (m1.trans m17)
 have hRF7:R.length=l.length→okFL M7 R:=fun e=>(hRF (by omega)).le (m1.trans m17)
 refine Stop.go ?_
 (try with_reducible refine Fz.of ?_);have hf:=A12 q1 q2 q3 q4 q5 q6 z1 z2 hjo wj p1 (A5 p2 c1 o1 o2 @Nat.mul_one);refine sF ?_;(repeat' ((first|((with_reducible refine yN ?_);refine kS 15 (pnewA_ok k (h1.le m17) hR7 (by omega) hRl hRF7 (fun cr cs cw M8 m8 a3 a4 a5=>Stop.mk ?_)))|refine oB ?_|fail)<;>refine sF ?_<;>try with_reducible exact tT))<;>try clear hf
 have m8:Mem.le M7 M8:=m8
 have q7:=a3.one
 have q8:=a4.one
 have q9:=a5.one
 refine Stop.go ?_
 (try with_reducible refine Fz.of ?_);have hf:=A12 q1 q2 q3 q4 q5 q6 q7 q8 q9 z1 z2 (A8 hjo wj p1 p2 c1 o1 o2 @Nat.mul_one);refine sF ?_;(repeat' ((first|((with_reducible refine yN ?_);refine kS 16 (rnewA_ok k ((h1.le m17).le m8) (hR7.le m8) (by omega) hRl (fun e=>(hRF7 e).le m8) (fun dr ds dw M9 m9 a6 a7 a8=>Stop.mk ?_)))|refine oB ?_|fail)<;>refine sF ?_<;>try with_reducible exact tT))<;>try clear hf
 have m9:Mem.le M8 M9:=m9
 have q10:=a6.one
 have q11:=a7.one
 have q12:=a8.one
 generalize newB l R k=r2 at *
 have de1:decide (r.e=r.e)=true:=by simp
 have de2:decide (r2.e=r2.e)=true:=by simp
 have gA9:=gA.le (m7.trans (m8.trans m9))
 have gB9:=gB.le (m8.trans m9)
 obtain ⟨L,g3,g4,g5⟩:=gA9.q
 have hlL:L.length=r.q.length:=by have:=congrArg List.length g5;simpa using this
 have hchk:=hp1.chk L g5
 have b1:=hp1.l
 have b2:=hp1.s
 have b3:=hp1.q
 refine Stop.go ?_
 (try with_reducible refine Fz.of ?_);have hf:=A12 q1 q2 q3 q4 q5 q6 q7 q8 q9 q10 q11 (A12 q12 de1 de2 z1 z2 hjo wj p1 p2 c1 o1 (A2 o2 @Nat.mul_one));refine sF ?_;(repeat' ((first|((with_reducible refine yN ?_);first|refine kS 17 (same35_ok gA9 gB9 (by omega) (by omega) (by omega) ?_)|refine kS 18 (pcheck_ok gA9.l gA9.s.nat g3 g4 (by omega) (by rw[List.length_map];omega) (by omega) (fun M10 m10=>Stop.mk ?_)))|refine oB ?_|fail)<;>refine sF ?_<;>try with_reducible exact tT))<;>try clear hf
 have m10:Mem.le M9 M10:=m10
 have hM10:=m5.trans (m6.trans (m7.trans (m8.trans (m9.trans m10))))
 cases he:decide (r.e=0) with
 | true=>
  rw[he]at hchk
  refine Stop.go ?_
  (try with_reducible refine Fz.of ?_);have hf:=A12 q1 q2 q3 q4 q5 q6 q7 q8 q9 q10 q11 (A12 q12 he hchk z1 z2 hjo wj p1 p2 c1 o1 (A2 o2 @Nat.mul_one));refine sF ?_;(repeat' ((first|refine oB ?_|fail)<;>refine sF ?_<;>try with_reducible exact tT))<;>try clear hf
  exact ⟨2-(j+1),nwlSt M10 v w ur uw most m2' (j+1),by omega,le_sub ⟨rfl,rfl,rfl,rfl,rfl,rfl,rfl,rfl,trivial⟩ ⟨rfl,rfl,rfl,trivial⟩ rfl rfl rfl (keepLt0 _),M10,j+1,rfl,by omega,hM10,rfl⟩
 | false=>
  rw[he]at hchk
  refine Stop.go ?_
  (try with_reducible refine Fz.of ?_);have hf:=A12 q1 q2 q3 q4 q5 q6 q7 q8 q9 q10 q11 (A12 q12 he hchk z1 z2 hjo wj p1 p2 c1 o1 (A2 o2 @Nat.mul_one));refine sF ?_;(repeat' ((first|refine oB ?_|fail)<;>refine sF ?_<;>try with_reducible exact tT))<;>try clear hf
  exact ⟨2-(j+1),nwlSt M10 v w ur uw most m2' (j+1),by omega,le_sub ⟨rfl,rfl,rfl,rfl,rfl,rfl,rfl,rfl,trivial⟩ ⟨rfl,rfl,rfl,trivial⟩ rfl rfl rfl (keepLt0 _),M10,j+1,rfl,by omega,hM10,rfl⟩
end
end Go.Proofs.YtbclgnojcnkehaaGreat.Sx
