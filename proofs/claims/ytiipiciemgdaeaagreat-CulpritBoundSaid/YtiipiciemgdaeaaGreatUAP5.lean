/- Part 39 of the texts of this claim: a symbolic executor and contracts of functions. -/
import Derived.Test.YtiipiciemgdaeaaGreatUAP4
import Derived.Test.YtiipiciemgdaeaaGreatUACMap
import Derived.Laws.IdiomCopy
namespace Go.Proofs.YtiipiciemgdaeaaGreat.Sx
open Go Go.RowKit
set_option linter.unusedVariables false
set_option linter.unusedSimpArgs false
set_option maxRecDepth 100000
set_option maxHeartbeats 8000000
attribute [local congr] fin_congr finG_congr stepG_congr step1_congr runOps_congr brv_congr obl_congr condK_congr LoopK_congr seqK_congr CutK_congr vc_congr DrawK_congr regK_congr CallK_congr AskK_congr newK_congr retC_congr ret1_congr retK_congr outV_congr closeK_congr genR_congr appR_congr finD_congr finGD_congr stepGD_congr stepD_congr CallK0_congr runD_congr okR_congr CallS_congr vcX_congr
attribute [local congr] Stop_congr
set_option exponentiation.threshold 5000
theorem ScI.ones{M:Mem}{w:ScV}{l:List Int}{s X:List Nat}{dl:Nat×Nat}(h:ScI M w l s dl X):w.us.oneCell'=true∧w.uw.oneCell'=true∧w.up.oneCell'=true∧w.ui.oneCell'=true∧w.su.oneCell'=true∧w.e1.oneCell'=true∧w.e2.oneCell'=true:=
 ⟨h.hs.one,h.hw.l.one,h.hp.one,h.hi.one,h.su.one,h.e1.one,h.e2.one⟩
def zNR:NR:=⟨.slice none 0 0,0⟩
section
variable {M:Mem}{K:AV→Hp→Mem→Prop}{v:SeV}{w:ScV}{l:List Int}{P:List FR}{N:List (Nat×Nat)}{f g dl:Nat×Nat}{s X:List Nat}
def upHp(v:SeV)(w:ScV)(W:AV):Hp:=[(6,88,sc0),(3,88,scC v w.us W w.up (.ext w.ui) (.ext w.su) (.ext w.e1) (.ext w.e2))]
def upA(M:Mem)(v:SeV)(w:ScV)(a b:Value)(p:Int):St:={env:=[(9,.ext b),(8,.ext a),(6,.own 6 0),(3,.own 3 0),(1,.ext (.int .i64 p))],hp:=upHp v w (.ext w.uw),M:=M,kb:=0,fx:=[]}
theorem rep_NR:∀n,List.map AV.ext (repN [.slice none 0 0] n)=cE NR.v (List.replicate n zNR)
 | 0=>rfl
 | n+1=>by
  have:=rep_NR n
  simp only[repN,List.map_append,List.replicate_succ,this]
  rfl
def upB(M:Mem)(v:SeV)(w:ScV)(a b:Value)(eff n k:Nat)(D:List NR):St:={env:=[(73,.ext (.int .i64 (k:Int))),(72,.ext (.int .i64 (n:Int))),(71,.ext w.us),(12,.ext w.uw),(10,.ext (.int .i64 (eff:Int))),(9,.ext b),(8,.ext a),(6,.own 6 0),(3,.own 3 0)],hp:=(68,30,cE NR.v (D++List.replicate (n-k) zNR)) :: upHp v w (.slo 68 0 n 1),M:=M,kb:=0,fx:=[]}
theorem set_fillN(D:List NR)(n i:Nat)(hD:D.length=i)(hi:i<n)(x:NR):(D++List.replicate (n-i) zNR).set i x=(D++[x])++List.replicate (n-(i+1)) zNR:=by
 subst hD
 rw[show n-D.length=(n-(D.length+1))+1 by omega,List.replicate_succ,List.set_append_right _ _ (Nat.le_refl _),Nat.sub_self,List.set_cons_zero,List.append_assoc]
 rfl
theorem okNL_fill{M:Mem}{D:List NR}(h:okNL M D)(n:Nat):okNL M (D++List.replicate n zNR):=fun x hx=>by
 rcases List.mem_append.1 hx with hx|hx
 ·exact h x hx
 ·rw[List.eq_of_mem_replicate hx]
  exact ⟨by rw[show zNR.n=0 from rfl,ofN_zero];exact isL_nil _ _ _,sm1000 (by decide)⟩
theorem out2{failed:Bool}{a:Nat×Nat}:(outN failed a).2=a.2:=by unfold outN;split<;>rfl
theorem cE_setN(L:List NR)(k:Nat)(x:NR):(cE NR.v L).set k (.ext x.v)=cE NR.v (L.set k x):=by simp[cE,List.map_set]
theorem out_le{failed:Bool}{f g:Nat×Nat}(hf:OkN f)(hg:OkN g):(outN failed f).1*g.2≤1000000:=
 Nat.le_trans (Nat.mul_le_mul hf.out.le1.1 hg.le1.2) (by decide)
theorem cupdate_ok(p:Int)(failed:Bool)(hv:SeI M v l P N f g dl)(h:ScI M w l s dl X)(hp:setB l p=true)(hx0:0<lsum (afterX l p failed f g X s))(hxs:Sm (lsum (afterX l p failed f g X s)*1000000))
  (hK:∀w' M',Mem.le M M'→ScI M' w' l s dl (afterX l p failed f g X s)→K (.ext (scO v w')) [] M') :
  CallS Tryz.prog 69 [.ext (scO v w),.ext (.int .i64 p),.ext (.bool failed)] [] M [] K:=by
 refine inlS (cs:=[5,15]) Tryz.mixed Tryz.func69 rfl (by kernel_rfl) 0 rfl rfl ?_
 simp only[Tryz.f69]
 have oo:=hv.ones
 have o2:=h.ones
 obtain ⟨f1,f2,f3,f4⟩:=hv.fo.sm
 obtain ⟨g1,g2,g3,g4⟩:=hv.go.sm
 obtain ⟨f5,f6⟩:=hv.fo.le1
 obtain ⟨g5,g6⟩:=hv.go.le1
 have f7:=hv.fo.2.1
 have g7:=hv.go.2.1
 have zy1:IsZ M v.y1 f.1:=⟨hv.y.n,f3⟩
 have zy2:IsZ M v.y2 f.2:=⟨hv.y.d,f4⟩
 have zx1:IsZ M v.x1 g.1:=⟨hv.x.n,g3⟩
 have zx2:IsZ M v.x2 g.2:=⟨hv.x.d,g4⟩
 have sm6:∀{a b:Nat},a≤1000→b≤1000→Sm (a*b):=fun ha hb=>(smC (j:=1) (by decide)).le (Nat.le_trans (Nat.mul_le_mul ha hb) (by decide))
 (try with_reducible refine Fz.of ?_);have hf:=A3 @scO.eq_1 oo o2;refine sF ?_;(repeat' ((first|((with_reducible refine yM ?_);refine kS 64 (cMul zx1 zy2 (sm6 (by omega) (by omega)) (fun a M1 m1 ga _=>Stop.mk ?_)))|((with_reducible refine isE 18 (by decide) ?_);refine dR (rP 0 3 [] (rP 3 3 [2] (rP 7 3 [2,5] (rP 10 3 [2,5,9] ((6,[9,12]) :: (rP 13 3 [] [])))))) (rgL 18 13 []) [] ?_)|refine oB ?_|fail)<;>refine sF ?_<;>try with_reducible exact tT))<;>try clear hf
 have m1:Mem.le M M1:=m1
 have p1:=ga.one
 refine Stop.go ?_
 (try with_reducible refine Fz.of ?_);have hf:=A3 oo o2 p1;refine sF ?_;(repeat' ((first|((with_reducible refine yM ?_);refine kS 64 (cMul (zy1.le m1) (zx2.le m1) (sm6 (by omega) (by omega)) (fun b M2 m2 gb _=>Stop.mk ?_)))|((with_reducible refine isE 18 (by decide) ?_);refine dR (rP 0 3 [] (rP 3 3 [2] (rP 7 3 [2,5] (rP 10 3 [2,5,9] ((6,[9,12]) :: (rP 13 3 [] [])))))) (rgL 18 13 []) [] ?_)|refine oB ?_|fail)<;>refine sF ?_<;>try with_reducible exact tT))<;>try clear hf
 have m2:Mem.le M1 M2:=m2
 have m02:=m1.trans m2
 have p2:=gb.one
 have ga:=ga.le m2
 refine wG (A4 oo o2 p1 p2) ?_
 refine ⟨fun z=>∃M' a b,Mem.le M M'∧IsZ M' a ((outN failed g).1*f.2)∧IsZ M' b ((outN failed f).1*g.2)∧z=upA M' v w a b p,?_,?_⟩
 ·cases failed with
  | true=>
   refine wT (A4 oo o2 p1 p2) ?_
   exact ⟨upA M2 v w a b p,le_sub ⟨rfl,rfl,rfl,rfl,rfl,trivial⟩ ⟨rfl,rfl,trivial⟩ rfl rfl rfl (keepLt0 _),M2,a,b,m02,ga,gb,rfl⟩
  | false=>
   (try with_reducible refine Fz.of ?_);have hf:=A4 oo o2 p1 p2;refine sF ?_;(repeat' ((first|((with_reducible refine yM ?_);refine kS 68 (cSub (zx2.le m02) (zx1.le m02) (by omega) (fun c M3 m3 gc _=>Stop.mk ?_)))|((with_reducible refine isE 34 (by decide) ?_);refine dR (rP 0 3 [] (rP 3 3 [2] (rP 7 3 [2,5] (rP 11 3 [2,5,9] (rP 14 3 [2,5,9,13] (rP 18 3 [2,5,9,13,16] ((6,[9,13,16,20]) :: (10,[13,16,20]) :: (17,[20]) :: (rP 21 3 [] [])))))))) (rgL 34 21 []) [] ?_)|refine oB ?_|fail)<;>refine sF ?_<;>try with_reducible exact tT))<;>try clear hf
   have m3:Mem.le M2 M3:=m3
   have p3:=gc.one
   refine Stop.go ?_
   (try with_reducible refine Fz.of ?_);have hf:=A5 oo o2 p1 p2 p3;refine sF ?_;(repeat' ((first|((with_reducible refine yM ?_);refine kS 64 (cMul gc ((zy2.le m02).le m3) (sm6 (by omega) (by omega)) (fun a' M4 m4 ga' _=>Stop.mk ?_)))|((with_reducible refine isE 34 (by decide) ?_);refine dR (rP 0 3 [] (rP 3 3 [2] (rP 7 3 [2,5] (rP 11 3 [2,5,9] (rP 14 3 [2,5,9,13] (rP 18 3 [2,5,9,13,16] ((6,[9,13,16,20]) :: (10,[13,16,20]) :: (17,[20]) :: (rP 21 3 [] [])))))))) (rgL 34 21 []) [] ?_)|refine oB ?_|fail)<;>refine sF ?_<;>try with_reducible exact tT))<;>try clear hf
   have m4:Mem.le M3 M4:=m4
   have p4:=ga'.one
   refine Stop.go ?_
   (try with_reducible refine Fz.of ?_);have hf:=A6 oo o2 p1 p2 p3 p4;refine sF ?_;(repeat' ((first|((with_reducible refine yM ?_);refine kS 68 (cSub (((zy2.le m02).le m3).le m4) (((zy1.le m02).le m3).le m4) (by omega) (fun d M5 m5 gd _=>Stop.mk ?_)))|((with_reducible refine isE 34 (by decide) ?_);refine dR (rP 0 3 [] (rP 3 3 [2] (rP 7 3 [2,5] (rP 11 3 [2,5,9] (rP 14 3 [2,5,9,13] (rP 18 3 [2,5,9,13,16] ((6,[9,13,16,20]) :: (10,[13,16,20]) :: (17,[20]) :: (rP 21 3 [] [])))))))) (rgL 34 21 []) [] ?_)|refine oB ?_|fail)<;>refine sF ?_<;>try with_reducible exact tT))<;>try clear hf
   have m5:Mem.le M4 M5:=m5
   have p5:=gd.one
   refine Stop.go ?_
   (try with_reducible refine Fz.of ?_);have hf:=A7 oo o2 p1 p2 p3 p4 p5;refine sF ?_;(repeat' ((first|((with_reducible refine yM ?_);refine kS 64 (cMul gd ((((zx2.le m02).le m3).le m4).le m5) (sm6 (by omega) (by omega)) (fun b' M6 m6 gb' _=>Stop.mk ?_)))|((with_reducible refine isE 34 (by decide) ?_);refine dR (rP 0 3 [] (rP 3 3 [2] (rP 7 3 [2,5] (rP 11 3 [2,5,9] (rP 14 3 [2,5,9,13] (rP 18 3 [2,5,9,13,16] ((6,[9,13,16,20]) :: (10,[13,16,20]) :: (17,[20]) :: (rP 21 3 [] [])))))))) (rgL 34 21 []) [] ?_)|refine oB ?_|fail)<;>refine sF ?_<;>try with_reducible exact tT))<;>try clear hf
   have m6:Mem.le M5 M6:=m6
   have p6:=gb'.one
   refine Stop.go ?_
   (try with_reducible refine Fz.of ?_);have hf:=A8 oo o2 p1 p2 p3 p4 p5 p6;refine sF ?_;(repeat' ((first|((with_reducible refine isE 34 (by decide) ?_);refine dR (rP 0 3 [] (rP 3 3 [2] (rP 7 3 [2,5] (rP 11 3 [2,5,9] (rP 14 3 [2,5,9,13] (rP 18 3 [2,5,9,13,16] ((6,[9,13,16,20]) :: (10,[13,16,20]) :: (17,[20]) :: (rP 21 3 [] [])))))))) (rgL 34 21 []) [] ?_)|refine oB ?_|fail)<;>refine sF ?_<;>try with_reducible exact tT))<;>try clear hf
   exact ⟨upA M6 v w a' b' p,le_sub ⟨rfl,rfl,rfl,rfl,rfl,trivial⟩ ⟨rfl,rfl,trivial⟩ rfl rfl rfl (keepLt0 _),M6,a',b',m02.trans (m3.trans (m4.trans (m5.trans m6))),(ga'.le m5).le m6,gb',rfl⟩
 ·clear p1 p2 ga gb m02 m2 m1
  rintro z ⟨M1,a,b,mA,ga,gb,rfl⟩
  have p1:=ga.one
  have p2:=gb.one
  have h1:=h.le mA
  have hv1:=hv.le mA
  obtain ⟨q,rfl,hq8,hq⟩:=setB_nat hv.c hp
  have hlt:=effN_lt (p:=q) hv.c
  have he:effR l (q:Int)=(((effN l q:Nat):Int),0):=by
   unfold effR
   rw[if_pos hv.c,if_pos hp,Int.toNat_natCast]
  have hl8:=chk_len hv.c
  have w2:=h1.hw.l.sl
  have w3:=h1.hw.l.len
  have s2:=h1.hs.sl
  have s3:=h1.hs.len
  have hEl:=h1.hw.len
  have hl:=h1.hl
  have hsb:=h1.sb
  unfold afterX at hK hx0 hxs
  rw[Int.toNat_natCast]at hK hx0 hxs
  generalize hef:effN l q=eff at *
  (try with_reducible refine Fz.of ?_);have hf:=A12 @upA.eq_1 @upHp.eq_1 @scC.eq_1 @sc0.eq_1 @nilE.eq_1 @itup.eq_1 he oo o2 p1 p2 (A4 w2 w3 s2 s3);refine sF ?_;(repeat' ((first|((with_reducible refine yN ?_);refine kS 103 (Effective_ok v.ur l (q:Int) hv1.r (by omega) ?_))|refine oB ?_|fail)<;>refine sF ?_<;>try with_reducible exact tT))<;>try clear hf
  have hn:w.E.length=s.length:=by omega
  rw[hn]at w3 ⊢
  have hml:=mulX_len (eff:=eff) (f:=outN failed f) (g:=outN failed g) hl
  refine ⟨fun z=>∃M' D,Mem.le M1 M'∧okNL M' D∧D.map NR.n=mulX eff (outN failed f) (outN failed g) X s∧z=upB M' v w a b eff s.length s.length D,?_,?_⟩
  ·refine wT (A12 @scC.eq_1 @sc0.eq_1 @nilE.eq_1 @rep_NR oo o2 p1 p2 w2 w3 s2 s3) ?_
   refine ⟨fun m z=>∃M' D k,m=s.length-k∧k≤s.length∧Mem.le M1 M'∧okNL M' D∧D.map NR.n=(mulX eff (outN failed f) (outN failed g) X s).take k∧z=upB M' v w a b eff s.length k D,
    ⟨s.length,upB M1 v w a b eff s.length 0 [],le_sub ⟨rfl,rfl,rfl,rfl,rfl,rfl,rfl,rfl,rfl,trivial⟩ ⟨rfl,rfl,rfl,trivial⟩ rfl rfl rfl (keepLt0 _),⟨M1,[],0,by omega,by omega,Mem.le.refl _,(fun x hx=>by cases hx),rfl,rfl⟩⟩,?_⟩
   rintro m z ⟨M2,D,k,rfl,hk,m2,hD,hDv,rfl⟩
   have hDl:D.length=k:=by have:=congrArg List.length hDv;rw[List.length_map,List.length_take]at this;omega
   have hall:=(okNL_fill hD (s.length-k)).all
   by_cases hlt:k<s.length
   case neg=>
    obtain rfl:k=s.length:=by omega
    have z1:decide ((s.length:Int)<(s.length:Int))=false:=by simp
    rw[List.take_of_length_le (by omega)]at hDv
    refine wT (A12 @upB.eq_1 @upHp.eq_1 @scC.eq_1 @sc0.eq_1 @nilE.eq_1 z1 oo o2 p1 p2 hall (A3 @cE_ment @cE_kill @hasK_nil)) ?_
    exact ⟨upB M2 v w a b eff s.length s.length D,le_sub ⟨rfl,rfl,rfl,rfl,rfl,rfl,rfl,rfl,rfl,trivial⟩ ⟨rfl,rfl,rfl,trivial⟩ rfl rfl rfl (keepLt0 _),M2,D,m2,hD,hDv,rfl⟩
   have h2:=h1.le m2
   have z1:decide ((k:Int)<(s.length:Int))=true:=by rw[decide_eq_true_eq];omega
   have fs:=h2.hs.idx (P:=Tryz.prog) (T:=3) tk3 tz3 (by omega) hlt
   obtain ⟨v4,q1,fw⟩:=h2.hw.get (by omega) (k:=k) (by omega)
   have c4:=q1.one
   have hsx:=h1.sx _ (List.getElem_mem hlt)
   have hkX:k<X.length:=by omega
   have hgx:X.getD k 0=X[k]:=by rw[List.getD_eq_getElem?_getD,List.getElem?_eq_getElem hkX];rfl
   have hmg:=mulX_get (eff:=eff) (f:=outN failed f) (g:=outN failed g) hkX hlt (by omega)
   have htk:(mulX eff (outN failed f) (outN failed g) X s).take (k+1)=(mulX eff (outN failed f) (outN failed g) X s).take k++[(mulX eff (outN failed f) (outN failed g) X s)[k]]:=by rw[List.take_add_one,List.getElem?_eq_getElem (by omega)];rfl
   rw[hmg,←hgx]at htk
   clear hmg hgx
   have hxl:X.getD k 0≤lsum X:=getD_le fun _ hx=>lsum_mem hx
   have wi:IntKind.i64.wrap ((k:Int)+1)=((k+1:Nat):Int):=succ_i (by omega)
   have ba:=bits_and (a:=eff) (b:=s[k]) (by omega) (by omega)
   have hcl:(cE NR.v (D++List.replicate (s.length-k) zNR)).length=s.length:=by rw[cE_len,List.length_append,List.length_replicate];omega
   generalize s[k]=sk at *
   generalize X.getD k 0=xk at *
   by_cases hb:eff &&& sk=0
   ·rw[if_pos hb]at htk
    have d1:decide (((eff &&& sk:Nat):Int)=0)=true:=by rw[hb];rfl
    (try with_reducible refine Fz.of ?_);have hf:=A12 @upB.eq_1 @upHp.eq_1 @scC.eq_1 @sc0.eq_1 @nilE.eq_1 @natV.eq_1 z1 ba d1 fs fw (A12 oo o2 p1 p2 c4 w2 w3 s2 s3 hall hcl (A3 @cE_ment @cE_kill @hasK_nil));refine sF ?_;(repeat' ((first|((with_reducible refine yM ?_);refine kS 64 (cMul q1 (gb.le m2) (h.xs.le (Nat.mul_le_mul hxl (out_le hv.fo hv.go))) (fun w5 M3 m3 g5 _=>Stop.mk ?_)))|((with_reducible refine isE 92 (by decide) ?_);refine dR ((0,[]) :: (1,[]) :: (rP 2 5 [1] [(7,[1,6]),(8,[1]),(9,[]),(10,[])])) (rgL 92 9 []) [] ?_)|refine oB ?_|fail)<;>refine sF ?_<;>try with_reducible exact tT))<;>try clear hf
    have m3:Mem.le M2 M3:=m3
    have c5:=g5.one
    have hset:=cE_setN (D++List.replicate (s.length-k) zNR) k ⟨w5,xk*((outN failed f).1*g.2)⟩
    rw[set_fillN D _ _ hDl hlt]at hset
    have hset:(cE NR.v (D++List.replicate (s.length-k) zNR)).set k (.ext w5)=cE NR.v ((D++[⟨w5,xk*((outN failed f).1*g.2)⟩])++List.replicate (s.length-(k+1)) zNR):=hset
    refine Stop.go ?_
    (try with_reducible refine Fz.of ?_);have hf:=A12 @scC.eq_1 @sc0.eq_1 @nilE.eq_1 @Nat.mul_one hlt hset wi oo o2 p1 p2 (A11 c4 c5 w2 w3 s2 s3 hall hcl @cE_ment @cE_kill @hasK_nil);refine sF ?_;(repeat' ((first|((with_reducible refine isE 92 (by decide) ?_);refine dR ((0,[]) :: (1,[]) :: (rP 2 5 [1] [(7,[1,6]),(8,[1]),(9,[]),(10,[])])) (rgL 92 9 []) [] ?_)|refine oB ?_|fail)<;>refine sF ?_<;>try with_reducible exact tT))<;>try clear hf
    exact ⟨s.length-(k+1),upB M3 v w a b eff s.length (k+1) (D++[⟨w5,xk*((outN failed f).1*g.2)⟩]),by omega,le_sub ⟨rfl,rfl,rfl,rfl,rfl,rfl,rfl,rfl,rfl,trivial⟩ ⟨rfl,rfl,rfl,trivial⟩ rfl rfl rfl (keepLt0 _),M3,_,k+1,rfl,by omega,m2.trans m3,(hD.le m3).snoc g5,by rw[List.map_append,hDv,htk,out2,Nat.mul_assoc];rfl,rfl⟩
   ·rw[if_neg hb]at htk
    have d1:decide (((eff &&& sk:Nat):Int)=0)=false:=decide_eq_false (by omega)
    (try with_reducible refine Fz.of ?_);have hf:=A12 @upB.eq_1 @upHp.eq_1 @scC.eq_1 @sc0.eq_1 @nilE.eq_1 @natV.eq_1 z1 ba d1 fs fw (A12 oo o2 p1 p2 c4 w2 w3 s2 s3 hall hcl (A3 @cE_ment @cE_kill @hasK_nil));refine sF ?_;(repeat' ((first|((with_reducible refine yM ?_);refine kS 64 (cMul q1 (ga.le m2) (h.xs.le (Nat.mul_le_mul hxl (out_le hv.go hv.fo))) (fun w5 M3 m3 g5 _=>Stop.mk ?_)))|((with_reducible refine isE 82 (by decide) ?_);refine dR ((0,[]) :: (1,[]) :: (rP 2 5 [1] [(7,[1,6]),(8,[1]),(9,[]),(10,[])])) (rgL 82 9 []) [] ?_)|refine oB ?_|fail)<;>refine sF ?_<;>try with_reducible exact tT))<;>try clear hf
    have m3:Mem.le M2 M3:=m3
    have c5:=g5.one
    have hset:=cE_setN (D++List.replicate (s.length-k) zNR) k ⟨w5,xk*((outN failed g).1*f.2)⟩
    rw[set_fillN D _ _ hDl hlt]at hset
    have hset:(cE NR.v (D++List.replicate (s.length-k) zNR)).set k (.ext w5)=cE NR.v ((D++[⟨w5,xk*((outN failed g).1*f.2)⟩])++List.replicate (s.length-(k+1)) zNR):=hset
    refine Stop.go ?_
    (try with_reducible refine Fz.of ?_);have hf:=A12 @scC.eq_1 @sc0.eq_1 @nilE.eq_1 @Nat.mul_one hlt hset wi oo o2 p1 p2 (A11 c4 c5 w2 w3 s2 s3 hall hcl @cE_ment @cE_kill @hasK_nil);refine sF ?_;(repeat' ((first|((with_reducible refine isE 82 (by decide) ?_);refine dR ((0,[]) :: (1,[]) :: (rP 2 5 [1] [(7,[1,6]),(8,[1]),(9,[]),(10,[])])) (rgL 82 9 []) [] ?_)|refine oB ?_|fail)<;>refine sF ?_<;>try with_reducible exact tT))<;>try clear hf
    exact ⟨s.length-(k+1),upB M3 v w a b eff s.length (k+1) (D++[⟨w5,xk*((outN failed g).1*f.2)⟩]),by omega,le_sub ⟨rfl,rfl,rfl,rfl,rfl,rfl,rfl,rfl,rfl,trivial⟩ ⟨rfl,rfl,rfl,trivial⟩ rfl rfl rfl (keepLt0 _),M3,_,k+1,rfl,by omega,m2.trans m3,(hD.le m3).snoc g5,by rw[List.map_append,hDv,htk,out2,Nat.mul_assoc];rfl,rfl⟩
  ·rintro z ⟨M2,D,m2,hD,hDv,rfl⟩
   have hDl:D.length=s.length:=by have:=congrArg List.length hDv;rw[List.length_map]at this;omega
   refine Fz.cellI (k:=68) (j:=3) (p0:=12) (n:=s.length) (q:=1) (off:=0) (T:=30) (T0:=88) (D.map NR.v) [(6,.own 6 0),(3,.own 3 0)] [(6,88,sc0)] rfl rfl (by
    show some (_,cE NR.v (D++List.replicate (s.length-s.length) zNR))=_
    rw[Nat.sub_self,List.replicate_zero,List.append_nil];rfl) (by rw[List.length_map];omega) (Nat.zero_le _) (by decide) ⟨rfl,rfl,trivial⟩ (by simp[mentE,AV.ment]) ⟨rfl,trivial⟩ (by simp[mentH,mentL,AV.ment,sc0,nilE]) (keepLt0 _) (fun j hj _=>absurd hj (Nat.not_lt_zero _)) (fun M3 uw m3 huw _=>?_)
   have m3:Mem.le M2 M3:=m3
   rw[List.drop_zero,List.take_of_length_le (by rw[List.length_map];omega)]at huw
   have huw:IsL M3 NR.v uw D:=by unfold IsL;rw[hDl];exact huw
   have q4:=huw.one
   have m13:=m2.trans m3
   have h3:=h1.le m13
   have hW:IsW M3 uw D (mulX eff (outN failed f) (outN failed g) X s):=⟨huw,hD.le m3,hDv⟩
   have hf:=A6 @scC.eq_1 @sc0.eq_1 @nilE.eq_1 oo o2 q4;refine wS ?_;refine yH 105 ?_;refine sF ?_;refine CallS.borBoxM (cs:=scL v ⟨w.us,uw,w.up,w.ui,w.su,w.e1,w.e2,D⟩) (fun U M9 m9 hU=>staA_ok (boxS_of hU) (h3.hs.le m9) (hW.le m9) hml hsb (hxs.le (by omega)) (fun w9 M10 m10 g10 fr=>⟨fun _ _=>rfl,fun M11 m11 k11 _=>sG ?_⟩));all_goals clear hf
   have m9:Mem.le M3 M11:=m11
   have hz9:IsZ M11 w9 (lsum (mulX eff (outN failed f) (outN failed g) X s)):=by
    rw[show totX (mulX eff (outN failed f) (outN failed g) X s) s (fun _=>true)=lsum (mulX eff (outN failed f) (outN failed g) X s) from by unfold totX;rw[filtX_true hml]]at g10
    exact ⟨g10.l.move (fr.le (Mem.le.refl _)) k11,g10.s⟩
   have q9:=hz9.one
   have h9:=h3.le m9
   have hk:=hK ⟨w.us,uw,w.up,w.ui,w9,w.e1,w.e2,D⟩ M11 (mA.trans (m13.trans m9)) ⟨h9.hs,hW.le m9,hml,hsb,h9.s0,h9.sx,h9.hp,h9.hi,hz9,h9.e1,h9.e2,h9.cl,h9.d,hx0,hxs⟩
   refine wG (A8 @scC.eq_1 @sc0.eq_1 @nilE.eq_1 @scL_ext oo o2 q4 q9) ?_
   exact hk
end
section
variable {M:Mem}{K:AV→Hp→Mem→Prop}
end
theorem mulX_two{eff:Nat}{f g:Nat×Nat}(hf:f.1≤f.2)(hg:g.1≤g.2){X s:List Nat}{i:Nat}(h1:i<X.length)(h2:i<s.length)(h3:i<(mulX eff f g X s).length)(h4:i<(mulX eff (outN false f) (outN false g) X s).length) :
  (mulX eff f g X s)[i]+(mulX eff (outN false f) (outN false g) X s)[i]=X[i]*(f.2*g.2):=by
 rw[mulX_get h1 h2,mulX_get h1 h2]
 obtain ⟨a,ha⟩:=Nat.exists_eq_add_of_le hf
 obtain ⟨b,hb⟩:=Nat.exists_eq_add_of_le hg
 have e1:(outN false f)=(a,f.2):=by unfold outN;rw[if_neg (by decide)];congr 1;omega
 have e2:(outN false g)=(b,g.2):=by unfold outN;rw[if_neg (by decide)];congr 1;omega
 rw[e1,e2,ha,hb]
 split<;>grind
theorem mulX_all{eff:Nat}{f g:Nat×Nat}(hf:f.1≤f.2)(hg:g.1≤g.2):∀{X s:List Nat},X.length=s.length→lsum (mulX eff f g X s)+lsum (mulX eff (outN false f) (outN false g) X s)=lsum X*(f.2*g.2)
 | [],[],_=>by simp[mulX,lsum]
 | x :: r,s :: t,h=>by
  have ih:=mulX_all (eff:=eff) hf hg (X:=r) (s:=t) (by simpa using h)
  have e:=mulX_two (eff:=eff) hf hg (X:=x :: r) (s:=s :: t) (i:=0) (by simp) (by simp) (by simp[mulX]) (by simp[mulX])
  simp only[mulX,List.getElem_cons_zero]at e
  rw[mulX,mulX,lsum,lsum,lsum]
  grind
section
variable {M:Mem}{K:AV→Hp→Mem→Prop}{ur us uw x1 x2 y1 y2:Value}{l:List Int}{s X:List Nat}{b:Nat}{f g:Nat×Nat}
end
def add3(a b:Nat×Nat×Nat):Nat×Nat×Nat:=(a.1+b.1,a.2.1+b.2.1,a.2.2+b.2.2)
def evX(l:List Int)(s:List Nat)(f g dl:Nat×Nat):Nat→List Nat→Nat×Nat×Nat
 | 0,X=>if decX dl X then (lsum X-topX X,topX X,0) else (0,0,lsum X)
 | m+1,X=>if decX dl X then ((lsum X-topX X)*(f.2*g.2)^(m+1),topX X*(f.2*g.2)^(m+1),0)
   else add3 (evX l s f g dl m (afterX l ((splitX l X s:Nat):Int) true f g X s)) (evX l s f g dl m (afterX l ((splitX l X s:Nat):Int) false f g X s))
theorem afterX_len{l:List Int}{p:Int}{b:Bool}{f g:Nat×Nat}{X s:List Nat}(h:X.length=s.length):(afterX l p b f g X s).length=s.length:=mulX_len h
theorem after_sum{l:List Int}{p:Int}{f g:Nat×Nat}{X s:List Nat}(hf:f.1≤f.2)(hg:g.1≤g.2)(h:X.length=s.length):lsum (afterX l p true f g X s)+lsum (afterX l p false f g X s)=lsum X*(f.2*g.2):=by
 have:=mulX_all (eff:=effN l p.toNat) hf hg h
 exact this
theorem evX_all{l:List Int}{s:List Nat}{f g dl:Nat×Nat}(hf:f.1≤f.2)(hg:g.1≤g.2):∀(m:Nat) (X:List Nat),X.length=s.length→(evX l s f g dl m X).1+(evX l s f g dl m X).2.1+(evX l s f g dl m X).2.2=lsum X*(f.2*g.2)^m
 | 0,X,hl=>by
  rw[evX,Nat.pow_zero,Nat.mul_one]
  have:=topX_le (X:=X)
  split
  ·simp only;omega
  ·simp only;omega
 | m+1,X,hl=>by
  rw[evX]
  have ht:=topX_le (X:=X)
  split
  ·simp only[Nat.add_zero]
   rw[←Nat.add_mul]
   congr 1
   omega
  ·have h1:=evX_all (l:=l) (dl:=dl) hf hg m (afterX l ((splitX l X s:Nat):Int) true f g X s) (afterX_len hl)
   have h2:=evX_all (l:=l) (dl:=dl) hf hg m (afterX l ((splitX l X s:Nat):Int) false f g X s) (afterX_len hl)
   have h3:=after_sum (l:=l) (p:=((splitX l X s:Nat):Int)) hf hg hl
   unfold add3
   simp only
   rw[Nat.pow_succ,Nat.mul_comm ((f.2*g.2)^m),←Nat.mul_assoc,←h3,Nat.add_mul]
   omega
theorem evX_bound{l:List Int}{s:List Nat}{f g dl:Nat×Nat}(hd:dl.1≤dl.2):∀(m:Nat) (X:List Nat),(evX l s f g dl m X).1*dl.2≤((evX l s f g dl m X).1+(evX l s f g dl m X).2.1)*dl.1
 | 0,X=>by
  rw[evX]
  have ht:=topX_le (X:=X)
  split
  ·rename_i h
   unfold decX at h
   rw[decide_eq_true_eq]at h
   simp only
   have e:lsum X-topX X+topX X=lsum X:=by omega
   rw[e,Nat.sub_mul]
   have e2:dl.2*lsum X=(dl.2-dl.1)*lsum X+dl.1*lsum X:=by rw[←Nat.add_mul];congr 1;omega
   rw[Nat.mul_comm (lsum X) dl.2,e2,Nat.mul_comm (lsum X) dl.1]
   omega
  ·simp
 | m+1,X=>by
  rw[evX]
  have ht:=topX_le (X:=X)
  split
  ·rename_i h
   unfold decX at h
   rw[decide_eq_true_eq]at h
   simp only
   have e:(lsum X-topX X)*(f.2*g.2)^(m+1)+topX X*(f.2*g.2)^(m+1)=lsum X*(f.2*g.2)^(m+1):=by rw[←Nat.add_mul];congr 1;omega
   rw[e]
   generalize (f.2*g.2)^(m+1)=c
   have h1:(lsum X-topX X)*dl.2≤lsum X*dl.1:=by
    rw[Nat.sub_mul]
    have e2:dl.2*lsum X=(dl.2-dl.1)*lsum X+dl.1*lsum X:=by rw[←Nat.add_mul];congr 1;omega
    rw[Nat.mul_comm (lsum X) dl.2,e2,Nat.mul_comm (lsum X) dl.1]
    omega
   calc (lsum X-topX X)*c*dl.2=((lsum X-topX X)*dl.2)*c:=by rw[Nat.mul_right_comm]
    _≤(lsum X*dl.1)*c:=Nat.mul_le_mul_right _ h1
    _=lsum X*c*dl.1:=by rw[Nat.mul_right_comm]
  ·have h1:=evX_bound (l:=l) (s:=s) (f:=f) (g:=g) hd m (afterX l ((splitX l X s:Nat):Int) true f g X s)
   have h2:=evX_bound (l:=l) (s:=s) (f:=f) (g:=g) hd m (afterX l ((splitX l X s:Nat):Int) false f g X s)
   unfold add3
   simp only
   rw[Nat.add_mul]
   have e:((evX l s f g dl m (afterX l ((splitX l X s:Nat):Int) true f g X s)).1+(evX l s f g dl m (afterX l ((splitX l X s:Nat):Int) false f g X s)).1+((evX l s f g dl m (afterX l ((splitX l X s:Nat):Int) true f g X s)).2.1+(evX l s f g dl m (afterX l ((splitX l X s:Nat):Int) false f g X s)).2.1))*dl.1=((evX l s f g dl m (afterX l ((splitX l X s:Nat):Int) true f g X s)).1+(evX l s f g dl m (afterX l ((splitX l X s:Nat):Int) true f g X s)).2.1)*dl.1+((evX l s f g dl m (afterX l ((splitX l X s:Nat):Int) false f g X s)).1+(evX l s f g dl m (afterX l ((splitX l X s:Nat):Int) false f g X s)).2.1)*dl.1:=by
    rw[←Nat.add_mul];congr 1;omega
   rw[e]
   exact Nat.add_le_add h1 h2
theorem pickS_in(f:Nat→Nat):∀(L:List Nat) (s b:Nat),pickS f L s b=s∨pickS f L s b∈L
 | [],_,_=>.inl rfl
 | p :: r,s,b=>by
  rw[pickS]
  split
  ·rcases pickS_in f r p (f p) with h|h
   ·rw[h];exact .inr (List.mem_cons_self ..)
   ·exact .inr (List.mem_cons_of_mem _ h)
  ·rcases pickS_in f r s b with h|h
   ·exact .inl h
   ·exact .inr (List.mem_cons_of_mem _ h)
theorem setB_split{l:List Int}(hc:chkL l=true)(X s:List Nat):setB l ((splitX l X s:Nat):Int)=true:=by
 rcases pickS_in (dP l X s) (ivN l.length) 0 (2*lsum X) with h|h
 ·unfold splitX
  rw[h]
  exact setB_of (by omega) (by have:=Nat.pow_pos (n:=l.length) (show 0<2 by decide);omega)
 ·exact setB_iv hc h
theorem nextX_set{l:List Int}{s X:List Nat}{dl:Nat×Nat}{most:Int}{n:Nat}{p:Int}(hc:chkL l=true)(h:nextX l s dl most X n=(p,0)):setB l p=true∧p=((splitX l X s:Nat):Int)∧(n:Int)<most:=by
 unfold nextX at h
 split at h
 ·cases h
 ·split at h
  ·cases h
  ·rename_i h1 h2
   have:=(Prod.mk.injEq ..▸h:((splitX l X s:Nat):Int)=p∧(0:Int)=0).1
   subst this
   exact ⟨setB_split hc X s,rfl,by omega⟩
theorem start_px{l:List Int}{N:List (Nat×Nat)}(hc:chkL l=true)(hN:∀p∈N,OkN p)(hl:N.length=l.length):PX (setsL l 2) (startX l N) b0:=by
 obtain ⟨h1,h2,_⟩:=start_sum hc hN hl
 refine ⟨by unfold startX;rw[List.length_map],fun x hx=>?_,h2,h1⟩
 unfold startX at hx
 obtain ⟨s,_,rfl⟩:=List.mem_map.1 hx
 exact pn_pos (facN_ok s N 0 hN)
section
variable {M:Mem}{K:AV→Hp→Mem→Prop}{v:SeV}{l u:List Int}{P:List FR}{N:List (Nat×Nat)}{f g dl:Nat×Nat}{fl dt d:LP}{b:List Bool}
def sc0V:Value:=.agg #[.slice none 0 0,.slice none 0 0,.slice none 0 0,.slice none 0 0,.slice none 0 0,.slice none 0 0,.slice none 0 0,.slice none 0 0,.int .i64 0,.slice none 0 0,.slice none 0 0,.slice none 0 0,.slice none 0 0,.slice none 0 0,.slice none 0 0,.slice none 0 0,.slice none 0 0,.slice none 0 0]
def rpSt(M:Mem)(v:SeV)(w:ScV)(n i:Nat):St:={env:=[(35,.ext (.int .i64 (i:Int))),(34,.ext (.int .i64 (n:Int))),(33,.ext v.uq),(4,.own 4 0),(3,.ext (.bool false)),(2,.own 2 0),(1,.own 1 0)],hp:=[(4,88,scC v w.us (.ext w.uw) w.up (.ext w.ui) (.ext w.su) (.ext w.e1) (.ext w.e2)),(2,88,sc0),(1,37,v.c)],M:=M,kb:=0,fx:=[]}
theorem creplay_bad(h:SeR M v l P fl dt d u b)(hb:chkC l P fl dt d v.most≠0∨u.length≠b.length∨v.most<(u.length:Int))(hK:∀M',Mem.le M M'→K (.ext (.tuple #[sc0V,.bool false])) [] M') :
  CallS Tryz.prog 49 [.ext v.v] [] M [] K:=by
 refine inlS (cs:=[]) Tryz.mixed Tryz.func49 rfl (by kernel_rfl) 0 rfl rfl ?_
 simp only[Tryz.f49]
 have oo:=h.ones
 have n1:=h.q.len
 have s1:=h.q.sl
 have n2:=h.f.len
 have s2:=h.f.sl
 have hf:=A2 @SeV.v.eq_1 oo;refine wS ?_;refine kN 43 (ccheck_ok h (fun M1 m1=>sG ?_));all_goals clear hf
 have hk:=hK M1 m1
 unfold sc0V at hk
 by_cases z1:chkC l P fl dt d v.most=0
 case neg=>
  have d1:decide (chkC l P fl dt d v.most=0)=false:=decide_eq_false z1
  refine wG (A6 oo d1 n1 s1 n2 s2) ?_
  exact hk
 by_cases z2:(u.length:Int)=(b.length:Int)
 case neg=>
  have d2:decide ((u.length:Int)=(b.length:Int))=false:=decide_eq_false z2
  refine wG (A7 oo z1 d2 n1 s1 n2 s2) ?_
  exact hk
 have z3:v.most<(u.length:Int):=by
  rcases hb with hb|hb|hb
  ·exact absurd z1 hb
  ·omega
  ·exact hb
 have d3:decide (v.most<(u.length:Int))=true:=decide_eq_true z3
 have d2:decide ((u.length:Int)=(b.length:Int))=true:=decide_eq_true z2
 refine wG (A8 oo z1 d2 d3 n1 s1 n2 s2) ?_
 exact hk
theorem creplay_ok(h:SeR M v l P fl dt d u b)(hv:SeI M v l P N f g dl)(z1:chkC l P fl dt d v.most=0)(z2:u.length=b.length)(z3:(u.length:Int)≤v.most)(hm:v.most≤16)
  (hK0:playX l (setsL l 2) f g dl v.most (u.zip b) 0 (startX l N)=none→∀M',Mem.le M M'→K (.ext (.tuple #[sc0V,.bool false])) [] M')
  (hK:∀X w M',playX l (setsL l 2) f g dl v.most (u.zip b) 0 (startX l N)=some X→Mem.le M M'→ScI M' w l (setsL l 2) dl X→PX (setsL l 2) X (b0*1000000^u.length)→K (.ext (.tuple #[scO v w,.bool true])) [] M') :
  CallS Tryz.prog 49 [.ext v.v] [] M [] K:=by
 refine inlS (cs:=[]) Tryz.mixed Tryz.func49 rfl (by kernel_rfl) 0 rfl rfl ?_
 simp only[Tryz.f49]
 have oo:=h.ones
 have n1:=h.q.len
 have s1:=h.q.sl
 have n2:=h.f.len
 have s2:=h.f.sl
 have hf:=A2 @SeV.v.eq_1 oo;refine wS ?_;refine kN 43 (ccheck_ok h (fun M1 m1=>sG ?_));all_goals clear hf
 have m1:Mem.le M M1:=m1
 have d3:decide (v.most<(u.length:Int))=false:=decide_eq_false (by omega)
 have d2:decide ((u.length:Int)=(b.length:Int))=true:=decide_eq_true (by omega)
 have hf:=A8 oo z1 d2 d3 n1 s1 n2 s2;refine wH ?_;refine kN 63 (begin_ok (hv.le m1) (fun w M2 m2 hw=>sG ?_));all_goals clear hf
 have m2:Mem.le M1 M2:=m2
 have m02:=m1.trans m2
 have o2:=hw.ones
 refine wG (A7 @scO.eq_1 oo o2 n1 s1 n2 s2) ?_
 refine ⟨fun m z=>∃M' w X i,m=u.length-i∧i≤u.length∧Mem.le M M'∧ScI M' w l (setsL l 2) dl X∧PX (setsL l 2) X (b0*1000000^i)∧playX l (setsL l 2) f g dl v.most (u.zip b) 0 (startX l N)=playX l (setsL l 2) f g dl v.most ((u.zip b).drop i) i X∧z=rpSt M' v w u.length i,
  ⟨u.length,rpSt M2 v w u.length 0,le_sub ⟨rfl,rfl,rfl,rfl,rfl,rfl,rfl,trivial⟩ ⟨rfl,rfl,rfl,trivial⟩ rfl rfl rfl (keepLt0 _),⟨M2,w,_,0,by omega,by omega,m02,hw,by rw[Nat.pow_zero,Nat.mul_one];exact start_px hv.c hv.no hv.nl,rfl,rfl⟩⟩,?_⟩
 clear o2 hw m02 m2 m1
 rintro m z ⟨M3,w,X,i,rfl,hi,m3,hw,hpx,hpl,rfl⟩
 have o2:=hw.ones
 by_cases hlt:i<u.length
 case neg=>
  obtain rfl:i=u.length:=by omega
  have y1:decide ((u.length:Int)<(u.length:Int))=false:=by simp
  rw[List.drop_of_length_le (by rw[List.length_zip];omega)]at hpl
  have hk:=hK X w M3 hpl m3 hw hpx
  unfold scO at hk
  refine wT (A8 @rpSt.eq_1 @scC.eq_1 @sc0.eq_1 @nilE.eq_1 @SeV.c.eq_1 y1 oo o2) ?_
  exact hk
 have y1:decide ((i:Int)<(u.length:Int))=true:=by rw[decide_eq_true_eq];omega
 have wi:IntKind.i64.wrap ((i:Int)+1)=((i+1:Nat):Int):=succ_i (by have:=h.qb;omega)
 have fq:=(h.q.le m3).idx (P:=Tryz.prog) (T:=3) tk3 tz3 (by have:=h.qb;omega) hlt
 have hzd:(u.zip b).drop i=(u[i],b[i]'(by omega)) :: (u.zip b).drop (i+1):=by
  rw[List.drop_eq_getElem_cons (by rw[List.length_zip];omega),List.getElem_zip]
 rw[hzd,playX]at hpl
 have hbb:i<b.length:=by omega
 have ffb:=h.f.le m3
 have hf:=A12 @rpSt.eq_1 @scC.eq_1 @sc0.eq_1 @nilE.eq_1 @SeV.c.eq_1 @intV64.eq_1 y1 fq n1 s1 oo o2;refine wS ?_;refine yH 52 ?_;refine sF ?_;refine CallS.borBox (cs:=scL v w) [.int .i64 (i:Int)] (fun U M9 m9 hU=>snext_ok i (boxS_of hU) (hw.le m9) (by have:=h.qb;omega) (fun M10 m10=>⟨fun _ _=>rfl,fun M4 m4 _ _=>sG ?_⟩));all_goals clear hf
 have m4:Mem.le M3 M4:=m4
 have m04:=m3.trans m4
 by_cases e0:(nextX l (setsL l 2) dl v.most X i).2=0
 case neg=>
  rw[if_neg (fun hh=>e0 (by rw[hh]))]at hpl
  have hk:=hK0 hpl M4 m04
  unfold sc0V at hk
  have y2:decide ((nextX l (setsL l 2) dl v.most X i).2=0)=false:=decide_eq_false e0
  refine wG (A11 @scC.eq_1 @sc0.eq_1 @nilE.eq_1 @SeV.c.eq_1 @scL_ext y2 fq n1 s1 oo o2) ?_
  exact hk
 by_cases e1:(nextX l (setsL l 2) dl v.most X i).1=u[i]
 case neg=>
  rw[if_neg (fun hh=>e1 (by rw[hh]))]at hpl
  have hk:=hK0 hpl M4 m04
  unfold sc0V at hk
  have y2:decide ((nextX l (setsL l 2) dl v.most X i).1=u[i])=false:=decide_eq_false e1
  refine wG (A12 @scC.eq_1 @sc0.eq_1 @nilE.eq_1 @SeV.c.eq_1 @scL_ext e0 y2 fq n1 s1 oo o2) ?_
  exact hk
 have hnx:nextX l (setsL l 2) dl v.most X i=(u[i],0):=Prod.ext e1 e0
 rw[if_pos hnx]at hpl
 obtain ⟨hset,_,_⟩:=nextX_set hv.c hnx
 have hpx1:=hpx.one (l:=l) hv.fo hv.go u[i] (b[i]'hbb)
 rw[smC_succ]at hpx1
 have fb:=(h.f.le m04).idx (P:=Tryz.prog) (T:=4) tk4 tz4 (by have:=h.fb;omega) hbb
 have hs17:Sm (lsum (afterX l u[i] (b[i]'hbb) f g X (setsL l 2))*1000000):=(smC (j:=i+2) (by omega)).le (by
  rw[←smC_succ]
  exact Nat.mul_le_mul_right _ hpx1.le)
 have y2:decide ((nextX l (setsL l 2) dl v.most X i).1=u[i])=true:=decide_eq_true e1
 have n3:=h.f.len
 rw[←z2]at n3 fb
 refine Stop.go ?_
 have hf:=A12 @scC.eq_1 @sc0.eq_1 @nilE.eq_1 @SeV.c.eq_1 @scL_ext e0 y2 fq fb n1 s1 (A4 n3 s2 oo o2);refine sF ?_;(repeat' ((first|((with_reducible refine yM ?_);refine kS 69 (cupdate_ok u[i] (b[i]'hbb) (hv.le m04) (hw.le m4) hset hpx1.sum hs17 (fun w' M5 m5 hw'=>Stop.mk ?_)))|((with_reducible refine isE 53 (by decide) ?_);refine dR ((0,[]) :: (rP 1 3 [0] [(4,[0,3]),(5,[0]),(6,[0]),(7,[]),(8,[])])) (rgL 53 7 []) [] ?_)|refine oB ?_|fail)<;>refine sF ?_<;>try with_reducible exact tT))<;>try clear hf
 have m5:Mem.le M4 M5:=m5
 have o3:=hw'.ones
 refine Stop.go ?_
 have hf:=A9 @scC.eq_1 @sc0.eq_1 @nilE.eq_1 @SeV.c.eq_1 @scO.eq_1 wi oo o2 o3;refine sF ?_;(repeat' ((first|((with_reducible refine isE 53 (by decide) ?_);refine dR ((0,[]) :: (rP 1 3 [0] [(4,[0,3]),(5,[0]),(6,[0]),(7,[]),(8,[])])) (rgL 53 7 []) [] ?_)|refine oB ?_|fail)<;>refine sF ?_<;>try with_reducible exact tT))<;>try clear hf
 exact ⟨u.length-(i+1),rpSt M5 v w' u.length (i+1),by omega,le_sub ⟨rfl,rfl,rfl,rfl,rfl,rfl,rfl,trivial⟩ ⟨rfl,rfl,rfl,trivial⟩ rfl rfl rfl (keepLt0 _),M5,w',_,i+1,rfl,by omega,m04.trans m5,hw',hpx1,hpl,rfl⟩
end
def numL(a:LP):Nat×Nat:=(valN a.1,valN a.2)
def numF(x:FR):Nat×Nat:=(valN x.l1,valN x.l2)
theorem numL_opN(p:Nat×Nat):numL (opN p)=p:=by
 unfold numL opN
 rw[valN_ofN,valN_ofN]
theorem cha_num{a b:List Nat}(ha:okN a)(hb:okN b)(h:chaF a b=true):∃n d,a=ofN n∧b=ofN d∧0<d∧Nat.gcd n d=1∧d≤1000∧chkF a b=true:=by
 unfold chaF at h
 simp only[Bool.and_eq_true]at h
 obtain ⟨hc,_,h1000⟩:=h
 obtain ⟨e1,e2,b1,b2,hd,hg⟩:=chkF_ok ha hb hc
 refine ⟨valN a,valN b,e1,e2,hd,hg,?_,hc⟩
 unfold cmpR at h1000
 have hcb:chkN b=true:=by
  unfold chkF at hc
  simp only[Bool.and_eq_true]at hc
  exact hc.1.1.2
 rw[hcb,chkN_1000,Bool.and_self,if_pos rfl,valN_ofN]at h1000
 exact cmpN_le1 h1000
theorem noi_okn{a b c d:List Nat}(ha:okN a)(hb:okN b)(hc:okN c)(hd:okN d)(h:noiF a b c d=true):∃p q:Nat×Nat,OkN p∧OkN q∧(a,b)=opN p∧(c,d)=opN q∧p.1*q.2<q.1*p.2:=by
 unfold noiF at h
 simp only[Bool.and_eq_true]at h
 obtain ⟨h1,h2,h3,h4,h5⟩:=h
 obtain ⟨n1,d1,rfl,rfl,p1,g1,l1,c1⟩:=cha_num ha hb h1
 obtain ⟨n2,d2,rfl,rfl,p2,g2,l2,c2⟩:=cha_num hc hd h2
 unfold cmpF at h4 h5
 rw[c1,c2,Bool.and_self,if_pos rfl,valN_ofN,valN_ofN,valN_ofN,valN_ofN]at h4
 rw[c2,chkF_11,Bool.and_self,if_pos rfl,valN_ofN,valN_ofN,valN_ofN,Nat.mul_one,Nat.one_mul]at h5
 have h4:=cmpN_lt1 h4
 have h5:=cmpN_lt1 h5
 rw[decide_eq_true_eq]at h3
 have hn1:0<n1:=by
  rcases Nat.eq_zero_or_pos n1 with e|e
  ·rw[e,ofN_zero]at h3;exact absurd h3 (Nat.lt_irrefl 0)
  ·exact e
 have hlt:n1<d1:=by
  have h6:n2*d1<d2*d1:=Nat.mul_lt_mul_of_pos_right h5 p1
  have h7:n1*d2<d1*d2:=by rw[Nat.mul_comm d1];omega
  exact Nat.lt_of_mul_lt_mul_right h7
 have hn2:0<n2:=by
  rcases Nat.eq_zero_or_pos n2 with e|e
  ·rw[e,Nat.zero_mul]at h4;omega
  ·exact e
 exact ⟨(n1,d1),(n2,d2),⟨hn1,hlt,l1,g1⟩,⟨hn2,h5,l2,g2⟩,rfl,rfl,h4⟩
theorem map_num{P:List FR}{N:List (Nat×Nat)}(h:P.map prV=N.map opN):P.map numF=N:=by
 have h2:=congrArg (fun t=>t.map numL) h
 simp only[List.map_map]at h2
 have e1:(numL ∘ prV)=numF:=funext fun x=>rfl
 have e2:(numL ∘ opN)=id:=funext numL_opN
 rw[e1,e2,List.map_id]at h2
 exact h2
theorem SeR.ok{M:Mem}{v:SeV}{l:List Int}{P:List FR}{fl dt d:LP}{u:List Int}{b:List Bool}(h:SeR M v l P fl dt d u b)(hc:chkC l P fl dt d v.most=0) :
  SeI M v l P (P.map numF) (numL fl) (numL dt) (numL d)∧1≤v.most∧v.most≤16∧(numL fl).1*(numL dt).2<(numL dt).1*(numL fl).2:=by
 unfold chkC at hc
 by_cases he:(newB l P 2).e=0
 case neg=>rw[if_neg he]at hc;exact absurd hc he
 rw[if_pos he]at hc
 cases hn:noiF fl.1 fl.2 dt.1 dt.2 with
 | false=>rw[hn]at hc;simp at hc
 | true=>
 rw[hn,if_pos rfl]at hc
 cases hi:innF d.1 d.2 with
 | false=>rw[hi]at hc;simp at hc
 | true=>
 rw[hi,if_pos rfl]at hc
 have hm:¬(v.most<1∨16<v.most):=fun hh=>by rw[if_pos hh]at hc;cases hc
 unfold newB at he
 by_cases hs:setsE l 2=0
 case neg=>rw[if_neg hs]at he;exact absurd he hs
 rw[if_pos hs]at he
 by_cases hl:P.length=l.length
 case neg=>rw[if_neg hl]at he;cases he
 rw[if_pos hl]at he
 cases ha:P.all (fun x=>innF x.l1 x.l2) with
 | false=>rw[ha]at he;cases he
 | true=>
 have hcl:chkL l=true:=by
  unfold setsE at hs
  by_cases hc:chkL l=true
  ·exact hc
  ·rw[if_neg hc]at hs;cases hs
 obtain ⟨N,hN,hNo⟩:=all_okn (fun x hx=>⟨(h.o x hx).on,(h.o x hx).od⟩) ha
 obtain ⟨p,q,hp,hq,e1,e2,hpq⟩:=noi_okn h.y.on h.y.od h.x.on h.x.od hn
 obtain ⟨r,hr,e3⟩:=inn_okn h.d.on h.d.od hi
 have e1:fl=opN p:=e1
 have e2:dt=opN q:=e2
 have e3:d=opN r:=e3
 subst e1 e2 e3
 rw[numL_opN,numL_opN,numL_opN,map_num hN]
 exact ⟨⟨h.r,hcl,h.p,h.o,hN,hNo,by have:=congrArg List.length hN;rw[List.length_map,List.length_map]at this;omega,h.y,h.x,h.d,hp,hq,hr,h.q.one,h.f.one⟩,by omega,by omega,hpq⟩
def playS(l:List Int)(P:List FR)(fl dt d:LP)(most:Int)(u:List Int)(b:List Bool):Option (List Nat):=
 if chkC l P fl dt d most=0∧u.length=b.length∧(u.length:Int)≤most then playX l (setsL l 2) (numL fl) (numL dt) (numL d) most (u.zip b) 0 (startX l (P.map numF)) else none
section
variable {M:Mem}{K:AV→Hp→Mem→Prop}{v:SeV}{l u:List Int}{P:List FR}{fl dt d:LP}{b:List Bool}
theorem creplay_all(h:SeR M v l P fl dt d u b)
  (hK0:playS l P fl dt d v.most u b=none→∀M',Mem.le M M'→K (.ext (.tuple #[sc0V,.bool false])) [] M')
  (hK:∀X w M',playS l P fl dt d v.most u b=some X→Mem.le M M'→ScI M' w l (setsL l 2) (numL d) X→SeI M' v l P (P.map numF) (numL fl) (numL dt) (numL d)→PX (setsL l 2) X (b0*1000000^u.length)→K (.ext (.tuple #[scO v w,.bool true])) [] M') :
  CallS Tryz.prog 49 [.ext v.v] [] M [] K:=by
 unfold playS at hK0 hK
 by_cases hh:chkC l P fl dt d v.most=0∧u.length=b.length∧(u.length:Int)≤v.most
 ·rw[if_pos hh]at hK0 hK
  obtain ⟨z1,z2,z3⟩:=hh
  obtain ⟨hv,_,hm,_⟩:=h.ok z1
  exact creplay_ok h hv z1 z2 z3 hm hK0 fun X w M' g1 g2 g3 g4=>hK X w M' g1 g2 g3 (hv.le g2) g4
 ·rw[if_neg hh]at hK0
  refine creplay_bad h ?_ (hK0 rfl)
  by_cases z1:chkC l P fl dt d v.most=0
  ·by_cases z2:u.length=b.length
   ·exact .inr (.inr (by have:¬(u.length:Int)≤v.most:=fun z3=>hh ⟨z1,z2,z3⟩;omega))
   ·exact .inr (.inl z2)
  ·exact .inl z1
theorem cCheck_ok(h:SeR M v l P fl dt d u b)(hK:∀M',Mem.le M M'→K (.ext (.bool (playS l P fl dt d v.most u b).isSome)) [] M') :
  CallS Tryz.prog 17 [.ext v.v] [] M [] K:=by
 refine inlS (cs:=[]) Tryz.mixed Tryz.func17 rfl (by kernel_rfl) 0 rfl rfl ?_
 simp only[Tryz.f17]
 have oo:=h.ones
 have hf:=A2 @SeV.v.eq_1 oo;refine wS ?_;refine kN 49 (creplay_all h (fun hp M1 m1=>sG ?_) (fun X w M1 hp m1 hw hv hpx=>sG ?_));all_goals clear hf
 ·have hk:=hK M1 m1
  rw[hp]at hk
  refine wG (A2 @sc0V.eq_1 oo) ?_
  exact hk
 ·have hk:=hK M1 m1
  rw[hp]at hk
  have o2:=hw.ones
  refine wG (A3 @scO.eq_1 oo o2) ?_
  exact hk
theorem cNext_ok(h:SeR M v l P fl dt d u b)(hK0:playS l P fl dt d v.most u b=none→∀M',Mem.le M M'→K (.ext (.tuple #[.int .i64 0,.int .i64 1])) [] M')
  (hK:∀X M',playS l P fl dt d v.most u b=some X→Mem.le M M'→K (.ext (.tuple #[.int .i64 (nextX l (setsL l 2) (numL d) v.most X u.length).1,.int .i64 (nextX l (setsL l 2) (numL d) v.most X u.length).2])) [] M') :
  CallS Tryz.prog 22 [.ext v.v] [] M [] K:=by
 refine inlS (cs:=[]) Tryz.mixed Tryz.func22 rfl (by kernel_rfl) 0 rfl rfl ?_
 simp only[Tryz.f22]
 have oo:=h.ones
 have n1:=h.q.len
 have s1:=h.q.sl
 have hf:=A2 @SeV.v.eq_1 oo;refine wS ?_;refine kN 49 (creplay_all h (fun hp M1 m1=>sG ?_) (fun X w M1 hp m1 hw hv hpx=>sG ?_));all_goals clear hf
 ·have hk:=hK0 hp M1 m1
  refine wG (A2 @sc0V.eq_1 oo) ?_
  exact hk
 ·have m1:Mem.le M M1:=m1
  have o2:=hw.ones
  have hf:=A5 @scO.eq_1 n1 s1 oo o2;refine wH ?_;refine yH 52 ?_;refine sF ?_;refine CallS.borBox (cs:=scL v w) [.int .i64 (u.length:Int)] (fun U M9 m9 hU=>snext_ok u.length (boxS_of hU) (hw.le m9) h.qb (fun M10 m10=>⟨fun _ _=>rfl,fun M4 m4 _ _=>sG ?_⟩));all_goals clear hf
  have hk:=hK X M4 hp (m1.trans m4)
  refine wG (A3 @scL_ext oo o2) ?_
  exact hk
theorem cFind_ok(h:SeR M v l P fl dt d u b)(hK0:playS l P fl dt d v.most u b=none→∀M',Mem.le M M'→K (.ext (.tuple #[.agg #[.bool false,.int .i64 0,.slice none 0 0,.slice none 0 0],.int .i64 1])) [] M')
  (hK:∀X w1 w2 M',playS l P fl dt d v.most u b=some X→Mem.le M M'→IsL M' u32V w1 (ofN (red (topX X) (lsum X)).1)→IsL M' u32V w2 (ofN (red (topX X) (lsum X)).2)→K (.ext (.tuple #[.agg #[.bool (decX (numL d) X),.int .i64 (((setsL l 2).getD (bestN X X.length) 0:Nat):Int),w1,w2],.int .i64 0])) [] M') :
  CallS Tryz.prog 25 [.ext v.v] [] M [] K:=by
 refine inlS (cs:=[]) Tryz.mixed Tryz.func25 rfl (by kernel_rfl) 0 rfl rfl ?_
 simp only[Tryz.f25]
 have oo:=h.ones
 have hf:=A2 @SeV.v.eq_1 oo;refine wS ?_;refine kN 49 (creplay_all h (fun hp M1 m1=>sG ?_) (fun X w M1 hp m1 hw hv hpx=>sG ?_));all_goals clear hf
 ·have hk:=hK0 hp M1 m1
  refine wG (A2 @sc0V.eq_1 oo) ?_
  exact hk
 ·have m1:Mem.le M M1:=m1
  have o2:=hw.ones
  have hf:=A3 @scO.eq_1 oo o2;refine wH ?_;refine yH 54 ?_;refine sF ?_;refine CallS.borBox (cs:=scL v w) [] (fun U M9 m9 hU=>sfind_ok (boxS_of hU) (hw.le m9) (fun w1 w2 M10 m10 g1 g2 r1 r2=>⟨fun _ _=>rfl,fun M4 m4 k4 _=>sG ?_⟩));all_goals clear hf
  have g1:IsL M4 u32V w1 (ofN (red (topX X) (lsum X)).1):=g1.move r1 k4
  have g2:IsL M4 u32V w2 (ofN (red (topX X) (lsum X)).2):=g2.move r2 k4
  have q1:=g1.one
  have q2:=g2.one
  have hk:=hK X w1 w2 M4 hp (m1.trans m4) g1 g2
  refine wG (A5 @scL_ext oo o2 q1 q2) ?_
  exact hk
end
section
variable {M:Mem}{K:AV→Hp→Mem→Prop}{v:SeV}{l u:List Int}{P:List FR}{fl dt d:LP}{b:List Bool}
def beHp(v:SeV)(w:ScV)(cr W:AV):Hp:=[(6,53,[cr,.ext w.us,W]),(4,88,scC v w.us (.ext w.uw) w.up (.ext w.ui) (.ext w.su) (.ext w.e1) (.ext w.e2)),(2,53,[nilE,nilE,nilE])]
def beSt(M:Mem)(v:SeV)(w:ScV)(cr:Value)(n i:Nat)(D:List FR):St:={env:=[(30,.ext (.int .i64 (i:Int))),(29,.ext (.int .i64 (n:Int))),(28,.ext w.uw),(6,.own 6 0),(4,.own 4 0),(3,.ext (.int .i64 0)),(2,.own 2 0)],hp:=(49,32,frC D) :: beHp v w (.ext cr) (.slo 49 0 i 2),M:=M,kb:=0,fx:=[]}
theorem cBelief_ok(h:SeR M v l P fl dt d u b)(hK0:playS l P fl dt d v.most u b=none→∀M',Mem.le M M'→K (.ext (.tuple #[.agg #[.slice none 0 0,.slice none 0 0,.slice none 0 0],.int .i64 1])) [] M')
  (hK:∀X wr ws ww M',playS l P fl dt d v.most u b=some X→Mem.le M M'→IsB M' wr ws ww l (setsL l 2) (qX X)→PX (setsL l 2) X (b0*1000000^u.length)→SeI M' v l P (P.map numF) (numL fl) (numL dt) (numL d)→K (.ext (.tuple #[.agg #[wr,ws,ww],.int .i64 0])) [] M') :
  CallS Tryz.prog 21 [.ext v.v] [] M [] K:=by
 refine inlS (cs:=[13]) Tryz.mixed Tryz.func21 rfl (by kernel_rfl) 0 rfl rfl ?_
 simp only[Tryz.f21]
 have oo:=h.ones
 have hf:=A2 @SeV.v.eq_1 oo;refine wS ?_;refine kN 49 (creplay_all h (fun hp M1 m1=>sG ?_) (fun X w M1 hp m1 hw hv hpx=>sG ?_));all_goals clear hf
 ·have hk:=hK0 hp M1 m1
  refine wG (A2 @sc0V.eq_1 oo) ?_
  exact hk
 have m1:Mem.le M M1:=m1
 have o2:=hw.ones
 refine Stop.go ?_
 (try with_reducible refine Fz.of ?_);have hf:=A3 @scO.eq_1 oo o2;refine sF ?_;(repeat' ((first|((with_reducible refine yM ?_);refine kS 50 (cloneI_ok v.ur l hv.r (by have:=h.lb;omega) (fun cr M2 m2 g2 _=>Stop.mk ?_)))|((with_reducible refine isE 19 (by decide) ?_);refine dR (rP 0 3 [] [(5,[2]),(6,[2]),(8,[2,6]),(3,[6]),(4,[6]),(7,[]),(9,[])]) (6 :: (rgL 19 8 [])) [] ?_)|refine oB ?_|fail)<;>refine sF ?_<;>try with_reducible exact tT))<;>try clear hf
 have m2:Mem.le M1 M2:=m2
 have p2:=g2.one
 have m02:=m1.trans m2
 have w2:=hw.hw.l.sl
 have w3:=hw.hw.l.len
 rw[hw.hw.len]at w3
 have hXb:X.length<1000000:=by have:=hw.hl;have:=hw.sb;omega
 refine Stop.go ?_
 (try with_reducible refine Fz.of ?_);have hf:=A5 oo o2 p2 w2 w3;refine sF ?_;(repeat' ((first|((with_reducible refine isE 19 (by decide) ?_);refine dR (rP 0 3 [] [(5,[2]),(6,[2]),(8,[2,6]),(3,[6]),(4,[6]),(7,[]),(9,[])]) (6 :: (rgL 19 8 [])) [] ?_)|refine oB ?_|fail)<;>refine sF ?_<;>try with_reducible exact tT))<;>try clear hf
 refine ⟨fun z=>∃M' D,Mem.le M2 M'∧okFL M' D∧D.map prV=(qX X).map (fun q=>(ofN q.1,ofN q.2))∧z=beSt M' v w cr X.length X.length D,?_,?_⟩
 ·refine wT (A5 oo o2 p2 w2 w3) ?_
  refine ⟨fun m z=>∃M' D i,m=X.length-i∧i≤X.length∧Mem.le M2 M'∧okFL M' D∧D.map prV=((qX X).take i).map (fun q=>(ofN q.1,ofN q.2))∧z=beSt M' v w cr X.length i D,
   ⟨X.length,beSt M2 v w cr X.length 0 [],(le_nilH 6 2 49 32 53 [.ext cr,.ext w.us,nilE] 2 rfl rfl (.inl rfl)).trans (le_sub ⟨rfl,rfl,rfl,rfl,rfl,rfl,rfl,trivial⟩ ⟨rfl,rfl,rfl,rfl,trivial⟩ rfl rfl rfl (keepLt0 _)),⟨M2,[],0,by omega,by omega,Mem.le.refl _,(fun x hx=>by cases hx),rfl,rfl⟩⟩,?_⟩
  rintro m z ⟨M3,D,i,rfl,hi,m3,hD,hDv,rfl⟩
  have hql:(qX X).length=X.length:=by unfold qX;rw[List.length_map]
  have hDl:D.length=i:=by have:=congrArg List.length hDv;rw[List.length_map,List.length_map,List.length_take]at this;omega
  have hcl:(frC D).length=i*2:=by rw[frC_len,hDl]
  by_cases hlt:i<X.length
  case neg=>
   obtain rfl:i=X.length:=by omega
   have y1:decide ((X.length:Int)<(X.length:Int))=false:=by simp
   rw[List.take_of_length_le (by omega)]at hDv
   refine wT (A11 @beSt.eq_1 @beHp.eq_1 @scC.eq_1 @nilE.eq_1 y1 oo o2 p2 @frC_ment @frC_kill @hasK_nil) ?_
   exact ⟨beSt M3 v w cr X.length X.length D,le_sub ⟨rfl,rfl,rfl,rfl,rfl,rfl,rfl,trivial⟩ ⟨rfl,rfl,rfl,rfl,trivial⟩ rfl rfl rfl (keepLt0 _),M3,D,m3,hD,hDv,rfl⟩
  have y1:decide ((i:Int)<(X.length:Int))=true:=by rw[decide_eq_true_eq];omega
  have wi:IntKind.i64.wrap ((i:Int)+1)=((i+1:Nat):Int):=succ_i (by omega)
  have h3:=hw.le (m2.trans m3)
  obtain ⟨v4,q1,f1⟩:=h3.hw.get hXb hlt
  have c4:=q1.one
  have hmk:=makF_red hw.x0 q1.s h3.su.s
  have hgx:X.getD i 0=X[i]:=by rw[List.getD_eq_getElem?_getD,List.getElem?_eq_getElem hlt];rfl
  have htk:(qX X).take (i+1)=(qX X).take i++[red (X.getD i 0) (lsum X)]:=by
   rw[List.take_add_one,hgx]
   unfold qX
   rw[List.getElem?_map,List.getElem?_eq_getElem hlt]
   rfl
  have hf:=A12 @beSt.eq_1 @beHp.eq_1 @scC.eq_1 @nilE.eq_1 y1 f1 c4 oo o2 p2 w2 (A4 w3 @frC_ment @frC_kill @hasK_nil);refine wS ?_;refine kN 51 (fmake_ok q1.l h3.su.l (okN_ofN _) (okN_ofN _) q1.s.big h3.su.s.big (fun w5 w6 M4 m4 g4 g5 _ _=>sG ?_));all_goals clear hf
  have m4:Mem.le M3 M4:=m4
  rw[hmk]at g4 g5
  have p4:=g4.one
  have p5:=g5.one
  have e0:(makF (ofN (X.getD i 0)) (ofN (lsum X))).1=0:=by rw[hmk]
  have hq4:IsF M4 w5 w6 (ofN (red (X.getD i 0) (lsum X)).1) (ofN (red (X.getD i 0) (lsum X)).2):=⟨g4,g5,okN_ofN _,okN_ofN _,((q1.s.le (red_p hw.x0).le1).big),((h3.su.s.le (red_p hw.x0).le2).big)⟩
  have ap:frC D++[.ext w5,.ext w6]=frC (D++[⟨w5,w6,ofN (red (X.getD i 0) (lsum X)).1,ofN (red (X.getD i 0) (lsum X)).2⟩]):=by simp[frC,FR.c]
  refine wG (A12 @scC.eq_1 @nilE.eq_1 e0 ap hcl wi y1 p4 p5 oo o2 (A6 p2 w2 w3 @frC_ment @frC_kill @hasK_nil)) ?_
  exact ⟨X.length-(i+1),beSt M4 v w cr X.length (i+1) (D++[⟨w5,w6,ofN (red (X.getD i 0) (lsum X)).1,ofN (red (X.getD i 0) (lsum X)).2⟩]),by omega,le_sub ⟨rfl,rfl,rfl,rfl,rfl,rfl,rfl,trivial⟩ ⟨rfl,rfl,rfl,rfl,trivial⟩ rfl rfl rfl (keepLt0 _),M4,_,i+1,rfl,by omega,m3.trans m4,(fun x hx=>by
   rcases List.mem_append.1 hx with hx|hx
   ·exact (hD x hx).le m4
   ·rw[List.mem_singleton.1 hx];exact hq4),by rw[List.map_append,hDv,htk,List.map_append];rfl,rfl⟩
 ·rintro z ⟨M3,D,m3,hD,hDv,rfl⟩
  have hql:(qX X).length=X.length:=by unfold qX;rw[List.length_map]
  have hDl:D.length=X.length:=by have:=congrArg List.length hDv;rw[List.length_map,List.length_map]at this;omega
  refine Fz.cellI (k:=49) (j:=6) (p0:=2) (n:=X.length) (q:=2) (off:=0) (T:=32) (T0:=53) (D.flatMap FR.c) [(6,.own 6 0),(3,.ext (.int .i64 0)),(2,.own 2 0)] [(2,53,[nilE,nilE,nilE])] rfl rfl rfl (by rw[flat_len (z:=2) (f:=FR.c) (fun _=>rfl)];omega) (Nat.zero_le _) (by decide) ⟨rfl,rfl,rfl,trivial⟩ (by simp[mentE,AV.ment]) ⟨rfl,trivial⟩ (by simp[mentH,mentL,AV.ment,nilE]) (keepLt0 _) (fun j hj _=>absurd hj (Nat.not_lt_zero _)) (fun M4 ww m4 hww _=>?_)
  have m4:Mem.le M3 M4:=m4
  rw[List.drop_zero,List.take_of_length_le (by rw[flat_len (z:=2) (f:=FR.c) (fun _=>rfl)];omega)]at hww
  have hww:IsR M4 2 FR.c ww D:=by unfold IsR;rw[hDl];exact hww
  have q4:=hww.one
  have m24:=m3.trans m4
  have hk:=hK X cr w.us ww M4 hp (m02.trans m24) ⟨g2.le m24,hw.hs.le (m2.trans m24),⟨D,hww,hD.le m4,hDv⟩⟩ hpx (hv.le (m2.trans m24))
  refine wT (A5 @nilE.eq_1 oo o2 p2 q4) ?_
  exact hk
end
theorem oth_okn{dl:Nat×Nat}(h:OkN dl):othF (ofN dl.1) (ofN dl.2)=(dl.2-dl.1,dl.2):=by
 obtain ⟨b1,b2,b3,b4⟩:=h.sm
 have hsub:=sub_1r (x:=dl.1) (d:=dl.2) b2 b3 b4 (by have:=h.2.1;omega)
 rw[red_okn h,red_okn h.oth]at hsub
 unfold othF
 rw[hsub]
section
variable {M:Mem}{K:AV→Hp→Mem→Prop}{v:SeV}{ur us uw:Value}{l:List Int}{P:List FR}{N:List (Nat×Nat)}{f g dl:Nat×Nat}{X:List Nat}{bb:Nat}
theorem rfound_ok(hv:SeI M v l P N f g dl)(hB:IsB M ur us uw l (setsL l 2) (qX X))(hP:PX (setsL l 2) X bb)(hb:Sm (bb*1000000))
  (hK:∀w1 w2 M',Mem.le M M'→IsF M' w1 w2 (ofN (red (topX X) (lsum X)).1) (ofN (red (topX X) (lsum X)).2)→K (.ext (.tuple #[.agg #[.bool (decX dl X),.int .i64 (((setsL l 2).getD (bestN X X.length) 0:Nat):Int),w1,w2],.int .i64 0])) [] M') :
  CallS Tryz.prog 58 [.ext v.v,.ext (.agg #[ur,us,uw])] [] M [] K:=by
 refine inlS (cs:=[]) Tryz.mixed Tryz.func58 rfl (by kernel_rfl) 0 rfl rfl ?_
 simp only[Tryz.f58]
 have oo:=hv.ones
 have b1:=hB.l.one
 have b2:=hB.s.one
 have b3:=hB.q.one
 obtain ⟨L,w1,w2,w3⟩:=hB.q
 have hm:∃m:Int,(m=1∨m=2)∧setsL l 2=setsL l m:=⟨2,.inr rfl,rfl⟩
 have lL:L.length=(setsL l 2).length:=by have:=congrArg List.length w3;rw[List.length_map,List.length_map,qX_len,hP.len]at this;exact this
 have hck:=(hP.bx hv.c hm).chk (hb.le (by omega)) w3
 have hsl:=setsL_len hv.c (m:=2)
 have hs0:0<(setsL l 2).length:=List.length_pos_of_mem (setsL_one hv.c (.inr rfl))
 have hl8:=(chk_len hv.c).2
 have hbest:bestI L (setsL l 2).length=bestN X X.length:=by
  rw[←hP.len]
  exact bestI_N hP.sum (hb.le (Nat.le_trans hP.le (Nat.le_mul_of_pos_right _ (by decide)))) (fun x hx=>lsum_mem hx) w3 _ (Nat.le_refl _)
 have hbl:=bestN_lt X X.length (by rw[hP.len];exact hs0)
 have hget:=plain_get (k:=bestN X X.length) w3 hbl
 have hsg:((setsL l 2).map fun (x:Nat)=>(x:Int)).getD (bestN X X.length) 0=(((setsL l 2).getD (bestN X X.length) 0:Nat):Int):=by
  rw[List.getD_eq_getElem?_getD,List.getD_eq_getElem?_getD,List.getElem?_map,List.getElem?_eq_getElem (by rw[←hP.len];exact hbl)]
  rfl
 have hf:=A5 @SeV.v.eq_1 oo b1 b2 b3;refine wS ?_;refine kN 97 (rbest35_ok hB.l hB.s.nat w1 w2 (by omega) (by rw[List.length_map];omega) (by omega) hck (by rw[List.length_map];exact hs0) (by rw[List.length_map];exact lL.symm) (fun c1 c2 M1 m1 g1=>sG ?_));all_goals clear hf
 have m1:Mem.le M M1:=m1
 rw[List.length_map,hbest,hget.1,hget.2]at g1
 have p1:=g1.n.one
 have p2:=g1.d.one
 rw[List.length_map,hbest,hsg]
 refine Stop.go ?_
 have hf:=A6 oo b1 b2 b3 p1 p2;refine sF ?_;(repeat' ((first|((with_reducible refine yM ?_);refine kS 87 (rRest_ok (hv.d.le m1) (fun c3 c4 M2 m2 g2 _ _=>Stop.mk ?_)))|((with_reducible refine isE 19 (by decide) ?_);refine dR ((0,[]) :: (1,[0]) :: (2,[0]) :: (6,[0,2]) :: (7,[0,2]) :: (3,[0,7]) :: (4,[7]) :: (5,[7]) :: (rP 8 3 [] [])) (rgL 19 8 []) [] ?_)|refine oB ?_|fail)<;>refine sF ?_<;>try with_reducible exact tT))<;>try clear hf
 have m2:Mem.le M1 M2:=m2
 rw[oth_okn hv.do_]at g2
 have p3:=g2.n.one
 have p4:=g2.d.one
 refine Stop.go ?_
 have hf:=A8 oo b1 b2 b3 p1 p2 p3 p4;refine sF ?_;(repeat' ((first|((with_reducible refine yM ?_);refine kS 91 (rfcmp_ok (g1.le m2) g2 (fun M3 m3=>Stop.mk ?_)))|((with_reducible refine isE 19 (by decide) ?_);refine dR ((0,[]) :: (1,[0]) :: (2,[0]) :: (6,[0,2]) :: (7,[0,2]) :: (3,[0,7]) :: (4,[7]) :: (5,[7]) :: (rP 8 3 [] [])) (rgL 19 8 []) [] ?_)|refine oB ?_|fail)<;>refine sF ?_<;>try with_reducible exact tT))<;>try clear hf
 have m3:Mem.le M2 M3:=m3
 have hk:=hK c1 c2 M3 (m1.trans (m2.trans m3)) ((g1.le m2).le m3)
 have hd:=dec_cmp (dl:=dl) (X:=X) rfl hP.sum (hb.le (Nat.le_trans hP.le (Nat.le_mul_of_pos_right _ (by decide)))) hv.do_
 unfold topX at hd hk
 refine Stop.go ?_
 have hf:=A9 @hd oo b1 b2 b3 p1 p2 p3 p4;refine sF ?_;(repeat' ((first|((with_reducible refine isE 19 (by decide) ?_);refine dR ((0,[]) :: (1,[0]) :: (2,[0]) :: (6,[0,2]) :: (7,[0,2]) :: (3,[0,7]) :: (4,[7]) :: (5,[7]) :: (rP 8 3 [] [])) (rgL 19 8 []) [] ?_)|refine oB ?_|fail)<;>refine sF ?_<;>try with_reducible exact tT))<;>try clear hf
 exact hk
end
theorem newB_X{l:List Int}{P:List FR}{N:List (Nat×Nat)}(hc:chkL l=true)(hl:N.length=l.length)(h:P.map prV=N.map opN)(hN:∀p∈N,OkN p) :
  newB l P 2=⟨0,l,setsL l 2,qX (startX l N)⟩:=by
 have hnl:N.length=P.length:=by have:=congrArg List.length h;simpa using this.symm
 have hl8:=(chk_len hc).2
 have he:setsE l 2=0:=by unfold setsE;rw[if_pos hc];rfl
 have hin:P.all (fun x=>innF x.l1 x.l2)=true:=by
  rw[List.all_eq_true]
  intro x hx
  have:prV x∈N.map opN:=by rw[←h];exact List.mem_map_of_mem hx
  obtain ⟨p,hp,e⟩:=List.mem_map.1 this
  have h1:ofN p.1=x.l1∧ofN p.2=x.l2:=Prod.mk.injEq ..▸e
  rw[←h1.1,←h1.2]
  exact (hN p hp).innF
 have hw:(setsL l 2).map (newW P)=(startX l N).map fun x=>red x (pd N):=by
  unfold startX
  rw[List.map_map]
  exact List.map_congr_left fun s _=>(newW_red h hN (by omega) s).2
 have h1:pd N≤1000^8:=Nat.le_trans (pd_le hN) (Nat.pow_le_pow_right (by decide) (by omega))
 obtain ⟨hb,h0,_⟩:=start_sum hc hN hl
 have hbs:Sm b0:=(smC (j:=0) (by decide)).le (by omega)
 unfold newB
 rw[if_pos he,if_pos (by omega),hin,if_pos rfl,hw,normQ_red (pd_pos hN) (sm_1000_9.le (Nat.le_trans h1 (by decide))) (hbs.le hb) h0]
 rfl
section
variable {M:Mem}{K:AV→Hp→Mem→Prop}{v:SeV}{ur us uw:Value}{l u:List Int}{P:List FR}{N:List (Nat×Nat)}{f g dl:Nat×Nat}{X:List Nat}{bb:Nat}{b:List Bool}
theorem rnext_ok(n:Nat)(hn:(n:Int)≤v.most)(hv:SeI M v l P N f g dl)(hB:IsB M ur us uw l (setsL l 2) (qX X))(hP:PX (setsL l 2) X bb)(hb:Sm (bb*1000000))
  (hK:∀M',Mem.le M M'→K (.ext (.tuple #[.int .i64 (nextX l (setsL l 2) dl v.most X n).1,.int .i64 (nextX l (setsL l 2) dl v.most X n).2])) [] M') :
  CallS Tryz.prog 60 [.ext v.v,.ext (.agg #[ur,us,uw]),.ext (.int .i64 (n:Int))] [] M [] K:=by
 refine inlS (cs:=[]) Tryz.mixed Tryz.func60 rfl (by kernel_rfl) 0 rfl rfl ?_
 simp only[Tryz.f60]
 have oo:=hv.ones
 have b1:=hB.l.one
 have b2:=hB.s.one
 have b3:=hB.q.one
 have hf:=A5 @SeV.v.eq_1 oo b1 b2 b3;refine wS ?_;refine kN 58 (rfound_ok hv hB hP hb (fun c1 c2 M1 m1 g1=>sG ?_));all_goals clear hf
 have m1:Mem.le M M1:=m1
 have p1:=g1.n.one
 have p2:=g1.d.one
 unfold nextX at hK
 cases hd:decX dl X with
 | true=>
  rw[if_pos hd]at hK
  have hk:=hK M1 m1
  refine wG (A6 oo b1 b2 b3 p1 p2) ?_
  exact hk
 | false=>
 rw[if_neg (by rw[hd];decide)]at hK
 by_cases hm:(n:Int)=v.most
 ·rw[if_pos (by omega)]at hK
  have hk:=hK M1 m1
  have z1:decide ((n:Int)=v.most)=true:=decide_eq_true hm
  refine wG (A7 oo b1 b2 b3 p1 p2 z1) ?_
  exact hk
 ·rw[if_neg (by omega)]at hK
  have z1:decide ((n:Int)=v.most)=false:=decide_eq_false hm
  have hsl:=setsL_len hv.c (m:=2)
  have hS8:∀x∈setsL l 2,x<256:=fun x hx=>(hI_ok hv.c 2).2 x (by rw[toN_hI];exact hx)
  have hf:=A7 oo b1 b2 b3 p1 p2 z1;refine wH ?_;refine kN 99 (rsplit35_ok (hB.le m1) hP hv.c ⟨2,.inr rfl,rfl⟩ (by omega) hS8 hb (fun M2 m2=>sG ?_));all_goals clear hf
  have hk:=hK M2 (m1.trans m2)
  refine wG (A6 oo b1 b2 b3 p1 p2) ?_
  exact hk
theorem rbegin_ok(hv:SeI M v l P N f g dl)(hK:∀wr ws ww M',Mem.le M M'→IsB M' wr ws ww l (setsL l 2) (qX (startX l N))→K (.ext (.tuple #[.agg #[wr,ws,ww],.int .i64 0])) [] M') :
  CallS Tryz.prog 70 [.ext v.v] [] M [] K:=by
 refine inlS (cs:=[]) Tryz.mixed Tryz.func70 rfl (by kernel_rfl) 0 rfl rfl ?_
 simp only[Tryz.f70]
 have oo:=hv.ones
 have hnl:N.length=P.length:=by have:=congrArg List.length hv.n;simpa using this.symm
 have hl8:=(chk_len hv.c).2
 have hNl:=hv.nl
 have hX:=newB_X hv.c hv.nl hv.n hv.no
 have hf:=A2 @SeV.v.eq_1 oo;refine wS ?_;refine kN 45 (rnew_ok 2 hv.r hv.p hv.o (by omega) (by omega) (fun wr ws ww M1 m1 g1 g2 g3=>sG ?_));all_goals clear hf
 rw[hX]at g1 g2 g3
 have p1:=g1.one
 have p2:=g2.one
 have p3:=g3.one
 have hk:=hK wr ws ww M1 m1 ⟨g1,g2,g3⟩
 have he:(newB l P 2).e=0:=by rw[hX]
 refine wG (A5 oo p1 p2 p3 he) ?_
 exact hk
end
section
variable {M:Mem}{K:AV→Hp→Mem→Prop}{ur us uw x1 x2 y1 y2:Value}{l:List Int}{s X:List Nat}{b:Nat}{f g:Nat×Nat}
theorem rupdX_ok(pool:Int)(failed:Bool)(h:IsB M ur us uw l s (qX X))(hP:PX s X b)(hc:chkL l=true)(hs:∃m:Int,(m=1∨m=2)∧s=setsL l m)(b1:l.length<1000000)(b2:s.length<1000000)
  (hf:OkN f) (hg:OkN g) (hfg:f.1*g.2<g.1*f.2) (hb:Sm (b*1000000)) (hp:setB l pool=true) (hy:IsF M y1 y2 (ofN f.1) (ofN f.2)) (hx:IsF M x1 x2 (ofN g.1) (ofN g.2))
  (hK:∀wr ws ww M',Mem.le M M'→IsB M' wr ws ww l s (qX (afterX l pool failed f g X s))→K (.ext (.tuple #[.agg #[wr,ws,ww],.int .i64 0])) [] M') :
  CallS Tryz.prog 98 [.ext (.agg #[ur,us,uw]),.ext (.agg #[y1,y2,x1,x2]),.ext (.int .i64 pool),.ext (.bool failed)] [] M [] K:=by
 obtain ⟨L,w1,w2,w3⟩:=h.q
 have lL:L.length=s.length:=by have:=congrArg List.length w3;rw[List.length_map,List.length_map,qX_len,hP.len]at this;exact this
 have hu:=hP.updB (pool:=pool) (failed:=failed) hc hs hf hg hfg hb hp w3
 refine rupdate_ok (fl:=opN f) (dt:=opN g) pool failed h.l h.s.nat w1 w2 b1 (by rw[List.length_map];exact b2) (by omega) hy hx ?_
 rw[hu]
 exact fun wr ws ww M1 m1 g1 g2 g3=>hK wr ws ww M1 m1 ⟨g1,g2,g3⟩
end
section
variable {M:Mem}{K:AV→Hp→Mem→Prop}{v:SeV}{l u:List Int}{P:List FR}{N:List (Nat×Nat)}{f g dl:Nat×Nat}{fl dt d:LP}{b:List Bool}
def plySt(M:Mem)(v:SeV)(wr ws ww:Value)(i:Nat):St:={env:=[(7,.ext (.int .i64 (i:Int))),(6,.ext (.int .i64 0)),(5,.own 5 0),(4,.ext (.int .i64 0)),(3,.ext (.bool false)),(2,.own 2 0),(1,.own 1 0)],hp:=[(5,53,[.ext wr,.ext ws,.ext ww]),(2,53,[nilE,nilE,nilE]),(1,37,v.c)],M:=M,kb:=0,fx:=[]}
theorem rplay_ok(h:SeR M v l P fl dt d u b)(hv:SeI M v l P N f g dl)(hfg:f.1*g.2<g.1*f.2)(z2:u.length=b.length)(z3:(u.length:Int)≤v.most)(hm:v.most≤16)
  (hK0:playX l (setsL l 2) f g dl v.most (u.zip b) 0 (startX l N)=none→∀M',Mem.le M M'→K (.ext (.tuple #[.agg #[.slice none 0 0,.slice none 0 0,.slice none 0 0],.bool false,.int .i64 0])) [] M')
  (hK:∀X wr ws ww M',playX l (setsL l 2) f g dl v.most (u.zip b) 0 (startX l N)=some X→Mem.le M M'→IsB M' wr ws ww l (setsL l 2) (qX X)→PX (setsL l 2) X (b0*1000000^u.length)→K (.ext (.tuple #[.agg #[wr,ws,ww],.bool true,.int .i64 0])) [] M') :
  CallS Tryz.prog 59 [.ext v.v] [] M [] K:=by
 refine inlS (cs:=[]) Tryz.mixed Tryz.func59 rfl (by kernel_rfl) 0 rfl rfl ?_
 simp only[Tryz.f59]
 have oo:=h.ones
 have n1:=h.q.len
 have s1:=h.q.sl
 have n3:=h.f.len
 have s2:=h.f.sl
 rw[←z2]at n3
 have hl8:=(chk_len hv.c).2
 have hsl:=setsL_len hv.c (m:=2)
 have hf:=A2 @SeV.v.eq_1 oo;refine wS ?_;refine kN 70 (rbegin_ok hv (fun wr ws ww M1 m1 hB=>sG ?_));all_goals clear hf
 have m1:Mem.le M M1:=m1
 have p1:=hB.l.one
 have p2:=hB.s.one
 have p3:=hB.q.one
 refine wG (A4 oo p1 p2 p3) ?_
 refine ⟨fun m z=>∃M' wr ws ww X i,m=u.length-i∧i≤u.length∧Mem.le M M'∧IsB M' wr ws ww l (setsL l 2) (qX X)∧PX (setsL l 2) X (b0*1000000^i)∧playX l (setsL l 2) f g dl v.most (u.zip b) 0 (startX l N)=playX l (setsL l 2) f g dl v.most ((u.zip b).drop i) i X∧z=plySt M' v wr ws ww i,
  ⟨u.length,plySt M1 v wr ws ww 0,le_sub ⟨rfl,rfl,rfl,rfl,rfl,rfl,rfl,trivial⟩ ⟨rfl,rfl,rfl,trivial⟩ rfl rfl rfl (keepLt0 _),⟨M1,wr,ws,ww,_,0,by omega,by omega,m1,hB,by rw[Nat.pow_zero,Nat.mul_one];exact start_px hv.c hv.no hv.nl,rfl,rfl⟩⟩,?_⟩
 clear p1 p2 p3 hB m1
 rintro m z ⟨M3,wr,ws,ww,X,i,rfl,hi,m3,hB,hpx,hpl,rfl⟩
 have p1:=hB.l.one
 have p2:=hB.s.one
 have p3:=hB.q.one
 by_cases hlt:i<u.length
 case neg=>
  obtain rfl:i=u.length:=by omega
  have y1:decide ((u.length:Int)<(u.length:Int))=false:=by simp
  rw[List.drop_of_length_le (by rw[List.length_zip];omega)]at hpl
  have hk:=hK X wr ws ww M3 hpl m3 hB hpx
  refine wT (A10 @plySt.eq_1 @SeV.c.eq_1 @nilE.eq_1 y1 n1 s1 oo p1 p2 p3) ?_
  exact hk
 have y1:decide ((i:Int)<(u.length:Int))=true:=by rw[decide_eq_true_eq];omega
 have wi:IntKind.i64.wrap ((i:Int)+1)=((i+1:Nat):Int):=succ_i (by have:=h.qb;omega)
 have hzd:(u.zip b).drop i=(u[i],b[i]'(by omega)) :: (u.zip b).drop (i+1):=by
  rw[List.drop_eq_getElem_cons (by rw[List.length_zip];omega),List.getElem_zip]
 rw[hzd,playX]at hpl
 have hbb:i<b.length:=by omega
 have hs16:Sm (b0*1000000^i*1000000):=by rw[smC_succ];exact smC (by omega)
 have hf:=A10 @plySt.eq_1 @SeV.c.eq_1 @nilE.eq_1 y1 n1 s1 oo p1 p2 p3;refine wS ?_;refine kN 60 (rnext_ok i (by omega) (hv.le m3) hB hpx hs16 (fun M4 m4=>sG ?_));all_goals clear hf
 have m4:Mem.le M3 M4:=m4
 have m04:=m3.trans m4
 have fq:=(h.q.le m04).idx (P:=Tryz.prog) (T:=3) tk3 tz3 (by have:=h.qb;omega) hlt
 by_cases e0:(nextX l (setsL l 2) dl v.most X i).2=0
 case neg=>
  rw[if_neg (fun hh=>e0 (by rw[hh]))]at hpl
  have hk:=hK0 hpl M4 m04
  have y2:decide ((nextX l (setsL l 2) dl v.most X i).2=0)=false:=decide_eq_false e0
  refine wG (A9 y2 @intV64.eq_1 fq n1 s1 oo p1 p2 p3) ?_
  exact hk
 by_cases e1:(nextX l (setsL l 2) dl v.most X i).1=u[i]
 case neg=>
  rw[if_neg (fun hh=>e1 (by rw[hh]))]at hpl
  have hk:=hK0 hpl M4 m04
  have y2:decide ((nextX l (setsL l 2) dl v.most X i).1=u[i])=false:=decide_eq_false e1
  refine wG (A10 e0 y2 @intV64.eq_1 fq n1 s1 oo p1 p2 p3) ?_
  exact hk
 have hnx:nextX l (setsL l 2) dl v.most X i=(u[i],0):=Prod.ext e1 e0
 rw[if_pos hnx]at hpl
 obtain ⟨hset,_,_⟩:=nextX_set hv.c hnx
 have hpx1:=hpx.one (l:=l) hv.fo hv.go u[i] (b[i]'hbb)
 rw[smC_succ]at hpx1
 have fb:=(h.f.le m04).idx (P:=Tryz.prog) (T:=4) tk4 tz4 (by have:=h.fb;omega) hbb
 rw[←z2]at fb
 have hv4:=hv.le m04
 refine Stop.go ?_
 have hf:=A12 e0 e1 @intV64.eq_1 fq fb n1 s1 n3 s2 oo p1 (A2 p2 p3);refine sF ?_;(repeat' ((first|((with_reducible refine yM ?_);refine kS 98 (rupdX_ok u[i] (b[i]'hbb) (hB.le m4) hpx hv.c ⟨2,.inr rfl,rfl⟩ (by omega) (by omega) hv.fo hv.go hfg hs16 hset hv4.y hv4.x (fun xr xs xw M5 m5 hB5=>Stop.mk ?_)))|((with_reducible refine isE 46 (by decide) ?_);refine dR ((0,[]) :: (1,[0]) :: (2,[0]) :: (rP 3 3 [0,2] ((6,[0,2,5]) :: (7,[0,2]) :: (8,[0,2]) :: (rP 9 6 [] [])))) (rgL 46 9 [56,57]) [] ?_)|refine oB ?_|fail)<;>refine sF ?_<;>try with_reducible exact tT))<;>try clear hf
 have m5:Mem.le M4 M5:=m5
 have q1:=hB5.l.one
 have q2:=hB5.s.one
 have q3:=hB5.q.one
 refine Stop.go ?_
 have hf:=A5 wi oo q1 q2 q3;refine sF ?_;(repeat' ((first|((with_reducible refine isE 46 (by decide) ?_);refine dR ((0,[]) :: (1,[0]) :: (2,[0]) :: (rP 3 3 [0,2] ((6,[0,2,5]) :: (7,[0,2]) :: (8,[0,2]) :: (rP 9 6 [] [])))) (rgL 46 9 [56,57]) [] ?_)|refine oB ?_|fail)<;>refine sF ?_<;>try with_reducible exact tT))<;>try clear hf
 exact ⟨u.length-(i+1),plySt M5 v xr xs xw (i+1),by omega,le_sub ⟨rfl,rfl,rfl,rfl,rfl,rfl,rfl,trivial⟩ ⟨rfl,rfl,rfl,trivial⟩ rfl rfl rfl (keepLt0 _),M5,xr,xs,xw,_,i+1,rfl,by omega,m04.trans m5,hB5,hpx1,hpl,rfl⟩
end
section
variable {M:Mem}{K:AV→Hp→Mem→Prop}{v:SeV}{l u:List Int}{P:List FR}{fl dt d:LP}{b:List Bool}
def SeV.fresh(v:SeV):Value:=.agg #[v.ur,v.up,v.y1,v.y2,v.x1,v.x2,v.d1,v.d2,.int .i64 v.most,.slice none 0 0,.slice none 0 0]
def se0V:Value:=.agg #[.slice none 0 0,.slice none 0 0,.slice none 0 0,.slice none 0 0,.slice none 0 0,.slice none 0 0,.slice none 0 0,.slice none 0 0,.int .i64 0,.slice none 0 0,.slice none 0 0]
theorem rNew_ok(h:SeR M v l P fl dt d u b)(hK0:chkC l P fl dt d v.most≠0→∀M',Mem.le M M'→K (.ext (.tuple #[se0V,.int .i64 (chkC l P fl dt d v.most)])) [] M')
  (hK:chkC l P fl dt d v.most=0→∀M',Mem.le M M'→K (.ext (.tuple #[v.fresh,.int .i64 0])) [] M') :
  CallS Tryz.prog 15 [.ext (.agg #[v.ur]),.ext v.up,.ext (.agg #[v.y1,v.y2,v.x1,v.x2]),.ext (.agg #[v.d1,v.d2]),.ext (.int .i64 v.most)] [] M [] K:=by
 refine inlS (cs:=[]) Tryz.mixed Tryz.func15 rfl (by kernel_rfl) 0 rfl rfl ?_
 simp only[Tryz.f15]
 have oo:=h.ones
 unfold chkC at hK hK0
 unfold se0V at hK0
 unfold SeV.fresh at hK
 have hf:=oo;refine wS ?_;refine kN 45 (rnew_ok 2 h.r h.p h.o h.lb h.pb (fun wr ws ww M1 m1 g1 g2 g3=>sG ?_));all_goals clear hf
 have m1:Mem.le M M1:=m1
 have p1:=g1.one
 have p2:=g2.one
 have p3:=g3.one
 by_cases he:(newB l P 2).e=0
 case neg=>
  rw[if_neg he]at hK0
  have hk:=hK0 he M1 m1
  have z1:decide ((newB l P 2).e=0)=false:=decide_eq_false he
  refine wG (A5 oo p1 p2 p3 z1) ?_
  exact hk
 rw[if_pos he]at hK hK0
 have h1:=h.le m1
 have hf:=A5 oo p1 p2 p3 he;refine wH ?_;refine kN 46 (rnoi_ok h1.y h1.x (fun M2 m2=>sG ?_));all_goals clear hf
 have m2:Mem.le M1 M2:=m2
 cases hn:noiF fl.1 fl.2 dt.1 dt.2 with
 | false=>
  rw[hn,if_neg (by decide)]at hK0
  have hk:=hK0 (by decide) M2 (m1.trans m2)
  refine wG (A5 oo p1 p2 p3 hn) ?_
  exact hk
 | true=>
 rw[hn,if_pos rfl]at hK hK0
 have h2:=h1.le m2
 have hf:=A5 oo p1 p2 p3 hn;refine wH ?_;refine kN 47 (rinner_ok h2.d (fun M3 m3=>sG ?_));all_goals clear hf
 have m3:Mem.le M2 M3:=m3
 have m03:=m1.trans (m2.trans m3)
 cases hi:innF d.1 d.2 with
 | false=>
  rw[hi,if_neg (by decide)]at hK0
  have hk:=hK0 (by decide) M3 m03
  refine wG (A5 oo p1 p2 p3 hi) ?_
  exact hk
 | true=>
 rw[hi,if_pos rfl]at hK hK0
 by_cases z1:v.most<1
 ·rw[if_pos (.inl z1)]at hK0
  have hk:=hK0 (by decide) M3 m03
  have z2:decide (v.most<1)=true:=decide_eq_true z1
  refine wG (A6 oo p1 p2 p3 hi z2) ?_
  exact hk
 ·have z2:decide (v.most<1)=false:=decide_eq_false z1
  by_cases z3:16<v.most
  ·rw[if_pos (.inr z3)]at hK0
   have hk:=hK0 (by decide) M3 m03
   have z4:decide (16<v.most)=true:=decide_eq_true z3
   refine wG (A7 oo p1 p2 p3 hi z2 z4) ?_
   exact hk
  ·rw[if_neg (fun h=>h.elim z1 z3)]at hK
   have hk:=hK rfl M3 m03
   have z4:decide (16<v.most)=false:=decide_eq_false z3
   refine wG (A7 oo p1 p2 p3 hi z2 z4) ?_
   exact hk
theorem rCheck_ok(h:SeR M v l P fl dt d u b)(hK:∀M',Mem.le M M'→K (.ext (.bool (playS l P fl dt d v.most u b).isSome)) [] M') :
  CallS Tryz.prog 34 [.ext v.v] [] M [] K:=by
 refine inlS (cs:=[]) Tryz.mixed Tryz.func34 rfl (by kernel_rfl) 0 rfl rfl ?_
 simp only[Tryz.f34]
 have oo:=h.ones
 have n1:=h.q.len
 have s1:=h.q.sl
 have n2:=h.f.len
 have s2:=h.f.sl
 unfold playS at hK
 have hf:=A2 @SeV.v.eq_1 oo;refine wS ?_;refine kN 15 (rNew_ok h (fun hc M1 m1=>sG ?_) (fun hc M1 m1=>sG ?_));all_goals clear hf
 ·have hk:=hK M1 m1
  rw[if_neg (fun hh=>hc hh.1)]at hk
  have z1:decide (chkC l P fl dt d v.most=0)=false:=decide_eq_false hc
  refine wG (A7 @se0V.eq_1 oo n1 n2 s1 s2 z1) ?_
  exact hk
 have m1:Mem.le M M1:=m1
 by_cases z2:(u.length:Int)=(b.length:Int)
 case neg=>
  have hk:=hK M1 m1
  rw[if_neg (fun hh=>z2 (by omega))]at hk
  have d2:decide ((u.length:Int)=(b.length:Int))=false:=decide_eq_false z2
  refine wG (A7 @SeV.fresh.eq_1 oo n1 n2 s1 s2 d2) ?_
  exact hk
 have d2:decide ((u.length:Int)=(b.length:Int))=true:=decide_eq_true z2
 by_cases z3:v.most<(u.length:Int)
 ·have hk:=hK M1 m1
  rw[if_neg (fun hh=>by omega)]at hk
  have d3:decide (v.most<(u.length:Int))=true:=decide_eq_true z3
  refine wG (A8 @SeV.fresh.eq_1 oo n1 n2 s1 s2 d2 d3) ?_
  exact hk
 have d3:decide (v.most<(u.length:Int))=false:=decide_eq_false z3
 rw[if_pos ⟨hc,by omega,by omega⟩]at hK
 obtain ⟨hv,_,hm,hfg⟩:=h.ok hc
 have hf:=A8 @SeV.fresh.eq_1 oo n1 n2 s1 s2 d2 d3;refine wH ?_;refine kN 59 (rplay_ok (h.le m1) (hv.le m1) hfg (by omega) (by omega) hm (fun hp M2 m2=>sG ?_) (fun X wr ws ww M2 hp m2 hB hpx=>sG ?_));all_goals clear hf
 ·have hk:=hK M2 (m1.trans m2)
  rw[hp]at hk
  refine wG (A5 oo n1 n2 s1 s2) ?_
  exact hk
 ·have hk:=hK M2 (m1.trans m2)
  rw[hp]at hk
  have q1:=hB.l.one
  have q2:=hB.s.one
  have q3:=hB.q.one
  refine wG (A8 oo n1 n2 s1 s2 q1 q2 q3) ?_
  exact hk
end
section
variable {M:Mem}{K:AV→Hp→Mem→Prop}{v:SeV}{l u:List Int}{P:List FR}{fl dt d:LP}{b:List Bool}
theorem rBelief_ok(h:SeR M v l P fl dt d u b)(hK0:playS l P fl dt d v.most u b=none→∀M',Mem.le M M'→K (.ext (.tuple #[.agg #[.slice none 0 0,.slice none 0 0,.slice none 0 0],.int .i64 1])) [] M')
  (hK:∀X wr ws ww M',playS l P fl dt d v.most u b=some X→Mem.le M M'→IsB M' wr ws ww l (setsL l 2) (qX X)→PX (setsL l 2) X (b0*1000000^u.length)→SeI M' v l P (P.map numF) (numL fl) (numL dt) (numL d)→(u.length:Int)≤v.most∧v.most≤16→K (.ext (.tuple #[.agg #[wr,ws,ww],.int .i64 0])) [] M') :
  CallS Tryz.prog 28 [.ext v.v] [] M [] K:=by
 refine inlS (cs:=[]) Tryz.mixed Tryz.func28 rfl (by kernel_rfl) 0 rfl rfl ?_
 simp only[Tryz.f28]
 have oo:=h.ones
 have hf:=A2 @SeV.v.eq_1 oo;refine wS ?_;refine kN 34 (rCheck_ok h (fun M1 m1=>sG ?_));all_goals clear hf
 have m1:Mem.le M M1:=m1
 cases hs:playS l P fl dt d v.most u b with
 | none=>
  have hk:=hK0 hs M1 m1
  refine Stop.go ?_
  refine Go1.mk ?_;repeat' ((first|(with_reducible refine Go1.go ?_)|(refine And.intro ?_ ?_;(try simp only[sxO]at *);omega)|fail)<;>(try simp (maxSteps:=1000000) only [Option.isSome_none,oo,↓hold_pre,awayP,runOps,regK,step1,newK,genR,appR,obl,buildR,Value.cells,closeK,keepH,outV,retK,ret1,retC,RetV,Option.getD,runD,stepD,afterK,undef,simprocAttr,sxB,↓sxD,sxE,sxTab]))
  exact hk
 | some X=>
 have hs':=hs
 unfold playS at hs'
 by_cases hh:chkC l P fl dt d v.most=0∧u.length=b.length∧(u.length:Int)≤v.most
 case neg=>rw[if_neg hh]at hs';cases hs'
 rw[if_pos hh]at hs'
 obtain ⟨z1,z2,z3⟩:=hh
 obtain ⟨hv,_,hm,hfg⟩:=h.ok z1
 refine Stop.go ?_
 refine Go1.mk ?_;repeat' ((first|(with_reducible refine Go1.go ?_)|(((with_reducible refine isCall (f:=59) ?_);refine callA_nil (by kernel_rfl) ?_;refine (rplay_ok (h.le m1) (hv.le m1) hfg z2 z3 hm (fun hp M2 m2=>Stop.mk ?_) (fun X2 wr ws ww M2 hp m2 hB hpx=>Stop.mk ?_))))|(refine And.intro ?_ ?_;(try simp only[sxO]at *);omega)|fail)<;>(try simp (maxSteps:=1000000) only [Option.isSome_some,SeV.v,oo,↓hold_pre,awayP,runOps,regK,step1,newK,genR,appR,obl,buildR,Value.cells,closeK,keepH,outV,retK,ret1,retC,RetV,Option.getD,runD,stepD,afterK,undef,simprocAttr,sxB,↓sxD,sxE,sxTab]))
 ·rw[hs']at hp;cases hp
 ·rw[hs']at hp
  cases hp
  have m02:=m1.trans m2
  have hk:=hK X wr ws ww M2 hs m02 hB hpx (hv.le m02) ⟨z3,hm⟩
  have q1:=hB.l.one
  have q2:=hB.s.one
  have q3:=hB.q.one
  refine wG (A4 oo q1 q2 q3) ?_
  exact hk
theorem rNext_ok(h:SeR M v l P fl dt d u b)(hK0:playS l P fl dt d v.most u b=none→∀M',Mem.le M M'→K (.ext (.tuple #[.int .i64 0,.int .i64 1])) [] M')
  (hK:∀X M',playS l P fl dt d v.most u b=some X→Mem.le M M'→K (.ext (.tuple #[.int .i64 (nextX l (setsL l 2) (numL d) v.most X u.length).1,.int .i64 (nextX l (setsL l 2) (numL d) v.most X u.length).2])) [] M') :
  CallS Tryz.prog 29 [.ext v.v] [] M [] K:=by
 refine inlS (cs:=[]) Tryz.mixed Tryz.func29 rfl (by kernel_rfl) 0 rfl rfl ?_
 simp only[Tryz.f29]
 have oo:=h.ones
 have n1:=h.q.len
 have s1:=h.q.sl
 have hf:=A2 @SeV.v.eq_1 oo;refine wS ?_;refine kN 28 (rBelief_ok h (fun hp M1 m1=>sG ?_) (fun X wr ws ww M1 hp m1 hB hpx hv hm=>sG ?_));all_goals clear hf
 ·have hk:=hK0 hp M1 m1
  refine wG oo ?_
  exact hk
 ·have m1:Mem.le M M1:=m1
  have q1:=hB.l.one
  have q2:=hB.s.one
  have q3:=hB.q.one
  obtain ⟨z3,z4⟩:=hm
  have hf:=A6 oo n1 s1 q1 q2 q3;refine wH ?_;refine kN 60 (rnext_ok u.length z3 hv hB hpx (by rw[smC_succ];exact smC (by omega)) (fun M2 m2=>sG ?_));all_goals clear hf
  have hk:=hK X M2 hp (m1.trans m2)
  refine wG (A6 oo n1 s1 q1 q2 q3) ?_
  exact hk
theorem rFind_ok(h:SeR M v l P fl dt d u b)(hK0:playS l P fl dt d v.most u b=none→∀M',Mem.le M M'→K (.ext (.tuple #[.agg #[.bool false,.int .i64 0,.slice none 0 0,.slice none 0 0],.int .i64 1])) [] M')
  (hK:∀X w1 w2 M',playS l P fl dt d v.most u b=some X→Mem.le M M'→IsF M' w1 w2 (ofN (red (topX X) (lsum X)).1) (ofN (red (topX X) (lsum X)).2)→K (.ext (.tuple #[.agg #[.bool (decX (numL d) X),.int .i64 (((setsL l 2).getD (bestN X X.length) 0:Nat):Int),w1,w2],.int .i64 0])) [] M') :
  CallS Tryz.prog 27 [.ext v.v] [] M [] K:=by
 refine inlS (cs:=[]) Tryz.mixed Tryz.func27 rfl (by kernel_rfl) 0 rfl rfl ?_
 simp only[Tryz.f27]
 have oo:=h.ones
 have hf:=A2 @SeV.v.eq_1 oo;refine wS ?_;refine kN 28 (rBelief_ok h (fun hp M1 m1=>sG ?_) (fun X wr ws ww M1 hp m1 hB hpx hv hm=>sG ?_));all_goals clear hf
 ·have hk:=hK0 hp M1 m1
  refine wG oo ?_
  exact hk
 ·have m1:Mem.le M M1:=m1
  have q1:=hB.l.one
  have q2:=hB.s.one
  have q3:=hB.q.one
  obtain ⟨z3,z4⟩:=hm
  have hf:=A4 oo q1 q2 q3;refine wH ?_;refine kN 58 (rfound_ok hv hB hpx (by rw[smC_succ];exact smC (by omega)) (fun c1 c2 M2 m2 g2=>sG ?_));all_goals clear hf
  have p1:=g2.n.one
  have p2:=g2.d.one
  have hk:=hK X c1 c2 M2 hp (m1.trans m2) g2
  refine wG (A6 oo q1 q2 q3 p1 p2) ?_
  exact hk
end
section
variable {P:Program}{s:St}{K:St→Prop}
theorem copy_exec{o:Oper}{dT sT:TypeId}{x y:Operand}{a:Act}{w w':World}{r:Value}(hop:o.op=.call {callee:=.builtin .copy,args:=#[x,y],argTypes:=#[dT,sT]})
  (h:(Builtin.copy_ #[dT,sT] o.type #[a.eval x,a.eval y]).run P w=.ok r w'):(execOp a.eval o).run P w=.ok (.value r) w':=by
 simp[execOp,hop,resolve,Sem.run_bind,Sem.run_pure,Result.andThen_ok,invoke,builtin,h]
theorem ask_copy{o:Oper}{dT sT elem:TypeId}{x y:Operand}{k n:Nat}{T:TypeId}{cs:List AV}{u:Value}{vs:List Value}(hop:o.op=.call {callee:=.builtin .copy,args:=#[x,y],argTypes:=#[dT,sT]})
  (ht:P.underlying dT=some (.slice elem)) (hz:(P.info? elem).map (·.size)=some 1) (hx:ev s x=.slo k 0 n 1) (hy:ev s y=.ext u) (hk:lkH s.hp k=some (T,cs)) (hn:cs.length=n) (h0:0<n) (hu:SlM s.M 1 u n vs) (h1:∀v∈vs,v.oneCell'=true)
  (hK:K (({s with hp:=upH s.hp k (vs.map .ext)}:St).put o.dst (.ext (.int .i64 (n:Int))))):AskK P o s K:=by
 intro c m a w Q hg hd
 obtain ⟨ρ,g⟩:=hg
 have ex:=g.ev x
 rw[hx]at ex
 have ey:a.eval y=u:=by have:=g.ev y;rw[hy]at this;exact this
 rcases ex with ⟨b,cap,hb,e,h2,h3⟩|⟨rfl,_⟩
 case inr=>exact absurd h0 (Nat.lt_irrefl 0)
 rcases hu.cases with ⟨rfl,_⟩|⟨b',off,c',rfl,h4,hr⟩
 ·exact absurd h0 (Nat.lt_irrefl 0)
 obtain ⟨hl,hget⟩:=rowM_get hr
 rw[Nat.mul_one]at hl
 obtain ⟨⟨arr,r1⟩,_⟩:=g.hp k T cs b hk hb
 have hsz:=r1.size
 have hle:=r1.le
 have hsrc:∀j v,vs[j]? = some v→w.cell? (Addr.add ⟨b',off,none⟩ j)=some v:=fun j v hj=>by
  have:=hget j v hj
  rw[addr_add]
  exact cellM_ok g.sub this
 have hrun:=run_copy_row (P:=P) w dT sT o.type elem b.b 0 n cap ⟨b',off,none⟩ n c' arr T vs ht hz r1.there (by rw[hl];exact (Nat.min_self n).symm) hsrc (by omega) h1
 have hex:=copy_exec (a:=a) hop (by rw[e,ey];exact hrun)
 have hg2:=g.sto (w':=w.setRow b.b (arr.toList.take 0++vs++arr.toList.drop (0+vs.length)).toArray) (cs':=vs.map .ext) (arr':=(arr.toList.take 0++vs++arr.toList.drop (0+vs.length)).toArray) hk hb ⟨rfl,rfl,rfl,by simp[World.setRow],fun i hi=>by simp[World.setRow,Array.getElem?_modify,Ne.symm hi]⟩ ⟨by simp[World.setRow,Array.getElem?_modify,r1.there],by simp;omega,by simp;omega,fun i v hv=>by
  have hi:i<vs.length:=by have:=(List.getElem?_eq_some_iff.1 hv).1;simpa using this
  rw[List.getElem?_map,List.getElem?_eq_getElem hi]at hv
  have hv:AV.ext vs[i]=v:=Option.some.inj hv
  subst hv
  show _=vs[i]
  simp[Array.getD_eq_getD_getElem?,List.getElem?_append,hi]⟩
 unfold Oper.wp
 rw[show Sem.run P (execOp a.eval o) w=_ from hex]
 rw[hl]
 simp only[Oper.upon]
 rw[hl]at hg2
 exact ⟨_,hK,ρ,hg2.put rfl hd⟩
theorem ask_copy0{o:Oper}{dT sT elem:TypeId}{x y:Operand}{k:Nat}{u:Value}{vs:List Value}(hop:o.op=.call {callee:=.builtin .copy,args:=#[x,y],argTypes:=#[dT,sT]})
  (ht:P.underlying dT=some (.slice elem)) (hz:(P.info? elem).map (·.size)=some 1) (hx:ev s x=.slo k 0 0 1) (hy:ev s y=.ext u) (hu:SlM s.M 1 u 0 vs)
  (hK:K (s.put o.dst (.ext (.int .i64 0)))):AskK P o s K:=by
 intro c m a w Q hg hd
 obtain ⟨ρ,g⟩:=hg
 have ex:=g.ev x
 rw[hx]at ex
 have ey:a.eval y=u:=by have:=g.ev y;rw[hy]at this;exact this
 obtain ⟨A,cap,e⟩:∃A cap,a.eval x=.slice A 0 cap:=by
  rcases ex with ⟨b,cap,hb,e,h2,h3⟩|⟨_,A,_,e⟩
  ·exact ⟨_,_,e⟩
  ·exact ⟨_,_,e⟩
 obtain ⟨B,c',e2⟩:∃B c',u=.slice B 0 c':=by
  rcases hu.cases with ⟨_,_,B,c',e2⟩|⟨b',off,c',e2,_,_⟩
  ·exact ⟨B,c',e2⟩
  ·exact ⟨_,c',e2⟩
 have hrun:=run_copy_none (P:=P) w dT sT o.type elem A B 0 cap 0 c' ht hz rfl
 have hex:=copy_exec (a:=a) hop (by rw[e,ey,e2];exact hrun)
 unfold Oper.wp
 rw[show Sem.run P (execOp a.eval o) w=_ from hex]
 simp only[Oper.upon]
 exact ⟨_,hK,ρ,g.put rfl hd⟩
end
section
variable {M:Mem}{K:AV→Hp→Mem→Prop}{u1 u2:Value}{l1 l2:List Nat}
theorem cfrac_ok(h:IsF M u1 u2 l1 l2)(hK:∀w1 w2 M',Mem.le M M'→IsF M' w1 w2 l1 l2→FreshS M w1→FreshS M w2→K (.ext (.agg #[w1,w2])) [] M') :
  CallS Tryz.prog 84 [.ext (.agg #[u1,u2])] [] M [] K:=by
 refine inlS (cs:=[]) Tryz.mixed Tryz.func84 rfl (by kernel_rfl) 0 rfl rfl ?_
 simp only[Tryz.f84]
 have o1:=h.n.one
 have o2:=h.d.one
 have b1:=h.bn
 have b2:=h.bd
 have hf:=A2 o1 o2;refine sF ?_;(repeat' ((first|((with_reducible refine yM ?_);refine kS 120 (cloneN_ok u1 l1 h.n (by omega) (fun w1 M1 m1 g1 f1=>Stop.mk ?_)))|((with_reducible refine isE 3 (by decide) ?_);refine dR ((0,[]) :: (1,[]) :: (3,[1]) :: (4,[1]) :: (2,[4]) :: (rP 5 3 [] [])) (rgL 3 5 []) [] ?_)|refine oB ?_|fail)<;>refine sF ?_<;>try with_reducible exact tT))<;>try clear hf
 have m1:Mem.le M M1:=m1
 have p1:=g1.one
 refine Stop.go ?_
 have hf:=A3 o1 o2 p1;refine sF ?_;(repeat' ((first|((with_reducible refine yM ?_);refine kS 120 (cloneN_ok u2 l2 (h.d.le m1) (by omega) (fun w2 M2 m2 g2 f2=>Stop.mk ?_)))|((with_reducible refine isE 3 (by decide) ?_);refine dR ((0,[]) :: (1,[]) :: (3,[1]) :: (4,[1]) :: (2,[4]) :: (rP 5 3 [] [])) (rgL 3 5 []) [] ?_)|refine oB ?_|fail)<;>refine sF ?_<;>try with_reducible exact tT))<;>try clear hf
 have m2:Mem.le M1 M2:=m2
 have p2:=g2.one
 have hk:=hK w1 w2 M2 (m1.trans m2) ⟨g1.le m2,g2,h.on,h.od,h.bn,h.bd⟩ f1 (f2.le m1)
 refine Stop.go ?_
 have hf:=A4 o1 o2 p1 p2;refine sF ?_;(repeat' ((first|((with_reducible refine isE 3 (by decide) ?_);refine dR ((0,[]) :: (1,[]) :: (3,[1]) :: (4,[1]) :: (2,[4]) :: (rP 5 3 [] [])) (rgL 3 5 []) [] ?_)|refine oB ?_|fail)<;>refine sF ?_<;>try with_reducible exact tT))<;>try clear hf
 exact hk
end
section
variable {M:Mem}{K:AV→Hp→Mem→Prop}{v:SeV}{l u:List Int}{P:List FR}{fl dt d:LP}{b:List Bool}
def se0:List AV:=[nilE,nilE,nilE,nilE,nilE,nilE,nilE,nilE,.ext (.int .i64 0),nilE,nilE]
def cpC(v:SeV)(wr:Value):List AV:=[.ext wr,.ext v.up,.ext v.y1,.ext v.y2,.ext v.x1,.ext v.x2,.ext v.d1,.ext v.d2,.ext (.int .i64 v.most),.ext v.uq,.ext v.uf]
def copSt(M:Mem)(v:SeV)(wr:Value)(n i:Nat)(D:List FR):St:={env:=[(21,.ext (.int .i64 (i:Int))),(20,.ext (.int .i64 (n:Int))),(19,.ext v.up),(3,.slo 17 0 n 2),(2,.own 2 0),(1,.own 1 0)],hp:=[(17,32,frC (D++List.replicate (n-i) zFR)),(2,37,se0),(1,37,cpC v wr)],M:=M,kb:=0,fx:=[]}
structure CopF (M0:Mem) (w:SeV) (D:List FR):Prop where
 r:FreshS M0 w.ur
 p:FreshS M0 w.up
 o:∀x∈D,FreshS M0 x.u1∧FreshS M0 x.u2
 y1:FreshS M0 w.y1
 y2:FreshS M0 w.y2
 x1:FreshS M0 w.x1
 x2:FreshS M0 w.x2
 d1:FreshS M0 w.d1
 d2:FreshS M0 w.d2
theorem repN_one(x:Value):∀n,(repN [x] n).length=n
 | 0=>rfl
 | n+1=>by simp[repN,repN_one x n]
theorem ccopied_ok(h:SeR M v l P fl dt d u b)(z2:u.length=b.length)
  (hK:∀(w:SeV) D M',Mem.le M M'→CopF M w D→w.most=v.most→IsL M' intV64 w.ur l→IsR M' 2 FR.c w.up D→okFL M' D→D.map prV=P.map prV→IsF M' w.y1 w.y2 fl.1 fl.2→IsF M' w.x1 w.x2 dt.1 dt.2→IsF M' w.d1 w.d2 d.1 d.2→K (.ag false ([.ext w.ur,.ext w.up,.ext w.y1,.ext w.y2,.ext w.x1,.ext w.x2,.ext w.d1,.ext w.d2,.ext (.int .i64 v.most),.slo 51 0 u.length 1,.slo 55 0 b.length 1])) [(55,4,cE Value.bool b),(51,3,cE intV64 u)] M') :
  CallS Tryz.prog 44 [.ext v.v] [] M [] K:=by
 refine inlS (cs:=[8]) Tryz.mixed Tryz.func44 rfl (by kernel_rfl) 0 rfl rfl ?_
 simp only[Tryz.f44]
 have oo:=h.ones
 have n2:=h.p.len
 have s2:=h.p.sl
 have pb:=h.pb
 have hf:=A2 @SeV.v.eq_1 oo;refine wS ?_;refine kN 50 (cloneI_ok v.ur l h.r (by have:=h.lb;omega) (fun wr M1 m1 g1 f1=>sG ?_));all_goals clear hf
 have m1:Mem.le M M1:=m1
 have p1:=g1.one
 refine wG (A5 @frC_rep oo p1 n2 s2) ?_
 refine ⟨fun z=>∃M' D,Mem.le M1 M'∧D.length=P.length∧okFL M' D∧(∀x∈D,FreshS M x.u1∧FreshS M x.u2)∧D.map prV=P.map prV∧z=copSt M' v wr P.length P.length D,?_,?_⟩
 ·refine wT (A4 oo p1 n2 s2) ?_
  refine ⟨fun m z=>∃M' D i,m=P.length-i∧i≤P.length∧Mem.le M1 M'∧D.length=i∧okFL M' D∧(∀x∈D,FreshS M x.u1∧FreshS M x.u2)∧D.map prV=(P.take i).map prV∧z=copSt M' v wr P.length i D,
   ⟨P.length,copSt M1 v wr P.length 0 [],le_sub ⟨rfl,rfl,rfl,rfl,rfl,rfl,trivial⟩ ⟨rfl,rfl,rfl,trivial⟩ rfl rfl rfl (keepLt0 _),⟨M1,[],0,by omega,by omega,Mem.le.refl _,rfl,(fun x hx=>by cases hx),(fun x hx=>by cases hx),rfl,rfl⟩⟩,?_⟩
  rintro m z ⟨M2,D,i,rfl,hi,m2,hD,hDo,hDf,hDv,rfl⟩
  by_cases hlt:i<P.length
  case neg=>
   obtain rfl:i=P.length:=by omega
   have y1:decide ((P.length:Int)<(P.length:Int))=false:=by simp
   rw[List.take_length]at hDv
   refine wT (A10 @copSt.eq_1 @cpC.eq_1 @se0.eq_1 @nilE.eq_1 y1 oo p1 @frC_ment @frC_kill @hasK_nil) ?_
   exact ⟨copSt M2 v wr P.length P.length D,le_sub ⟨rfl,rfl,rfl,rfl,rfl,rfl,trivial⟩ ⟨rfl,rfl,rfl,trivial⟩ rfl rfl rfl (keepLt0 _),M2,D,m2,hD,hDo,hDf,hDv,rfl⟩
  have y1:decide ((i:Int)<(P.length:Int))=true:=by rw[decide_eq_true_eq];omega
  have y2:(0:Int)≤(i:Int):=by omega
  have y3:(i:Int)<(P.length:Int):=by omega
  have wi:IntKind.i64.wrap ((i:Int)+1)=((i+1:Nat):Int):=succ_i (by omega)
  have m02:=m1.trans m2
  have hu2:=h.p.le m02
  have hnn:=hu2.nn hlt
  have hat:=hu2.at (P:=Tryz.prog) (T:=32) (fun _=>rfl) tk32 tz32 hlt
  have hF:=(h.o.le m02) _ (List.getElem_mem hlt)
  have htk:(P.take (i+1)).map prV=(P.take i).map prV++[prV P[i]]:=by rw[List.take_add_one,List.getElem?_eq_getElem hlt,List.map_append];rfl
  have hlen:=frC_len (D++List.replicate (P.length-i) zFR)
  rw[List.length_append,hD,List.length_replicate,show i+(P.length-i)=P.length by omega]at hlen
  have hin:i*2+2≤P.length*2:=by omega
  generalize P[i]=x at *
  obtain ⟨x1,x2,c1,c2⟩:=x
  have hat2:lookM Tryz.prog 32 M2 (elemP v.up 2 i)=some (.agg #[x1,x2]):=hat
  clear hat
  have hF:IsF M2 x1 x2 c1 c2:=hF
  have p3:=hF.n.one
  have p4:=hF.d.one
  have hf:=A12 @copSt.eq_1 @cpC.eq_1 @se0.eq_1 @nilE.eq_1 y1 y2 y3 hnn hat2 oo p1 (A7 p3 p4 n2 s2 @frC_ment @frC_kill @hasK_nil);refine wS ?_;(first|refine yN ?_|refine yM ?_);refine kS 84 (cfrac_ok hF (fun w1 w2 M3 m3 g3 fa fb=>sG ?_));all_goals clear hf
  have m3:Mem.le M2 M3:=m3
  have p5:=g3.n.one
  have p6:=g3.d.one
  have hst:=frC_setF (L:=D++List.replicate (P.length-i) zFR) (i:=i) (by rw[List.length_append,hD,List.length_replicate];omega) ⟨w1,w2,c1,c2⟩
  rw[set_fill D _ _ hD hlt]at hst
  refine wG (A12 @cpC.eq_1 @se0.eq_1 @nilE.eq_1 p5 p6 wi y1 y2 y3 hlen hin (A9 hst oo p1 n2 s2 @frC_ment @frC_kill @hasK_nil @Nat.zero_add)) ?_
  exact ⟨P.length-(i+1),copSt M3 v wr P.length (i+1) (D++[⟨w1,w2,c1,c2⟩]),by omega,le_sub ⟨rfl,rfl,rfl,rfl,rfl,rfl,trivial⟩ ⟨rfl,rfl,rfl,trivial⟩ rfl rfl rfl (keepLt0 _),M3,_,i+1,rfl,by omega,m2.trans m3,by rw[List.length_append,hD];rfl,(fun x hx=>by
   rcases List.mem_append.1 hx with hx|hx
   ·exact (hDo x hx).le m3
   ·rw[List.mem_singleton.1 hx];exact g3),(fun x hx=>by
   rcases List.mem_append.1 hx with hx|hx
   ·exact hDf x hx
   ·rw[List.mem_singleton.1 hx];exact ⟨fa.le m02,fb.le m02⟩),by rw[List.map_append,hDv,htk];rfl,rfl⟩
 ·rintro z ⟨M2,D,m2,hD,hDo,hDf,hDv,rfl⟩
  refine Fz.flat (k:=17) (n:=P.length) (w:=2) (T:=32) 3 (D.flatMap FR.c) [(2,.own 2 0),(1,.own 1 0)] [(2,37,se0),(1,37,cpC v wr)] rfl (by
   show some (_,frC (D++List.replicate (P.length-P.length) zFR))=_
   rw[Nat.sub_self,List.replicate_zero,List.append_nil];rfl) (by rw[flat_len (z:=2) (f:=FR.c) (fun _=>rfl),hD]) (Nat.zero_le _) ⟨rfl,rfl,trivial⟩ rfl ⟨rfl,rfl,trivial⟩ rfl (keepLt0 _) (fun j hj _=>absurd hj (Nat.not_lt_zero _)) (fun M3 wp m3 hwp fp=>?_)
  have m3:Mem.le M2 M3:=m3
  have hwp:IsR M3 2 FR.c wp D:=by unfold IsR;rw[hD];exact hwp
  have p2:=hwp.one
  have m03:=(m1.trans m2).trans m3
  have h3:=h.le m03
  have nq:=h.q.len
  have sq:=h.q.sl
  have nf:=h.f.len
  have sf:=h.f.sl
  have hf:=A6 @cpC.eq_1 @se0.eq_1 @nilE.eq_1 oo p1 p2;refine wS ?_;(first|refine yN ?_|refine yM ?_);refine kS 84 (cfrac_ok h3.d (fun e1 e2 M4 m4 g4 h41 h42=>sG ?_));all_goals clear hf
  have m4:Mem.le M3 M4:=m4
  have q1:=g4.n.one
  have q2:=g4.d.one
  refine Stop.go ?_
  (try with_reducible refine Fz.of ?_);have hf:=A8 @cpC.eq_1 @se0.eq_1 @nilE.eq_1 oo p1 p2 q1 q2;refine sF ?_;(repeat' ((first|((with_reducible first|refine yN ?_|refine yM ?_);refine kS 84 (cfrac_ok (h3.y.le m4) (fun a1 a2 M5 m5 g5 h51 h52=>Stop.mk ?_)))|((with_reducible refine isE 38 (by decide) ?_);refine dR (rP 0 3 [] (rP 4 3 [2] ((3,[6]) :: (rP 7 4 [] [])))) (rgL 38 7 []) [] ?_)|refine oB ?_|fail)<;>refine sF ?_<;>try with_reducible exact tT))<;>try clear hf
  have m5:Mem.le M4 M5:=m5
  have q3:=g5.n.one
  have q4:=g5.d.one
  refine Stop.go ?_
  (try with_reducible refine Fz.of ?_);have hf:=A10 @cpC.eq_1 @se0.eq_1 @nilE.eq_1 oo p1 p2 q1 q2 q3 q4;refine sF ?_;(repeat' ((first|((with_reducible first|refine yN ?_|refine yM ?_);refine kS 84 (cfrac_ok ((h3.x.le m4).le m5) (fun b1 b2 M6 m6 g6 h61 h62=>Stop.mk ?_)))|((with_reducible refine isE 38 (by decide) ?_);refine dR (rP 0 3 [] (rP 4 3 [2] ((3,[6]) :: (rP 7 4 [] [])))) (rgL 38 7 []) [] ?_)|refine oB ?_|fail)<;>refine sF ?_<;>try with_reducible exact tT))<;>try clear hf
  have m6:Mem.le M5 M6:=m6
  have q5:=g6.n.one
  have q6:=g6.d.one
  have hqb:=h.qb
  have hfb:=h.fb
  refine Stop.go ?_
  (try with_reducible refine Fz.of ?_);have hf:=A12 @copSt.eq_1 @cpC.eq_1 @se0.eq_1 @nilE.eq_1 oo p1 p2 q1 q2 q3 q4 (A6 q5 q6 nq sq nf sf);refine sF ?_;(repeat' ((first|((with_reducible refine isE 38 (by decide) ?_);refine dR (rP 0 3 [] (rP 4 3 [2] ((3,[6]) :: (rP 7 4 [] [])))) (rgL 38 7 []) [] ?_)|((with_reducible refine isE 48 (by decide) ?_);refine dR (rP 0 4 [] (rP 4 4 [1] [(8,[5]),(9,[])])) (6 :: (rgL 48 8 [])) [] ?_)|refine oB ?_|fail)<;>refine sF ?_<;>try with_reducible exact tT))<;>try clear hf
  have h6:=((h3.le m4).le m5).le m6
  have m36:=m4.trans (m5.trans m6)
  have hkk:=hK ⟨wr,wp,a1,a2,b1,b2,e1,e2,v.most,v.uq,v.uf⟩ D M6 (m03.trans m36) ⟨f1,FreshS.le fp (m1.trans m2),hDf,h51.le (m03.trans m4),h52.le (m03.trans m4),h61.le (m03.trans (m4.trans m5)),h62.le (m03.trans (m4.trans m5)),h41.le m03,h42.le m03⟩ rfl (g1.le (m2.trans (m3.trans m36))) (hwp.le m36) (hDo.le (m3.trans m36)) hDv (g5.le m6) g6 (g4.le (m5.trans m6))
  by_cases h0:0<u.length
  case pos=>
   refine ask_copy (k:=51) (T:=3) (elem:=3) (u:=v.uq) (vs:=u.map intV64) rfl (by rfl) (by rfl) rfl rfl rfl (by rw[List.length_map,repN_one]) h0 h6.q (fun x hx=>by obtain ⟨y,_,rfl⟩:=List.mem_map.1 hx;rfl) ?_
   refine wT (A12 @copSt.eq_1 @cpC.eq_1 @se0.eq_1 @nilE.eq_1 oo p1 p2 q1 q2 q3 q4 (A6 q5 q6 nq sq nf sf)) ?_
   refine ask_copy (k:=55) (T:=4) (elem:=4) (u:=v.uf) (vs:=b.map Value.bool) rfl (by rfl) (by rfl) rfl rfl rfl (by rw[List.length_map,repN_one]) (by omega) h6.f (fun x hx=>by obtain ⟨y,_,rfl⟩:=List.mem_map.1 hx;rfl) ?_
   have ce1:List.map AV.ext (List.map intV64 u)=cE intV64 u:=rfl
   have ce2:List.map AV.ext (List.map Value.bool b)=cE Value.bool b:=rfl
   refine wT (A12 @copSt.eq_1 @cpC.eq_1 @se0.eq_1 @nilE.eq_1 oo p1 p2 q1 q2 q3 q4 (A11 q5 q6 nq sq nf sf ce1 ce2 @cE_ment @cE_kill @hasK_nil)) ?_
   exact hkk
  case neg=>
   have hu0:u=[]:=List.eq_nil_of_length_eq_zero (by omega)
   have hb0:b=[]:=List.eq_nil_of_length_eq_zero (by omega)
   subst hu0 hb0
   have h6q:SlM M6 1 v.uq 0 ([]:List Value):=h6.q
   have h6f:SlM M6 1 v.uf 0 ([]:List Value):=h6.f
   refine ask_copy0 (k:=51) (elem:=3) (u:=v.uq) (vs:=[]) rfl (by rfl) (by rfl) rfl rfl h6q ?_
   refine wT (A12 @copSt.eq_1 @cpC.eq_1 @se0.eq_1 @nilE.eq_1 oo p1 p2 q1 q2 q3 q4 (A6 q5 q6 nq sq nf sf)) ?_
   refine ask_copy0 (k:=55) (elem:=4) (u:=v.uf) (vs:=[]) rfl (by rfl) (by rfl) rfl rfl h6f ?_
   refine wT (A12 @copSt.eq_1 @cpC.eq_1 @se0.eq_1 @nilE.eq_1 oo p1 p2 q1 q2 q3 q4 (A6 q5 q6 nq sq nf sf)) ?_
   exact hkk
end
mutual
def BorN(M0 M:Mem)(H:Hp):AV→Value→Prop
 | .ext v,u=>u=v
 | .slo k off n z,u=>FreshS M0 u∧∀T (cs:List Value),lkH H k=some (T,cs.map .ext)→off+n*z≤cs.length→SlM M z u n ((cs.drop off).take (n*z))
 | .ag t l,u=>∃us,BorNL M0 M H l us∧u=aggV t us
 | .own _ _,_=>True
 | .gd _ _,_=>True
 | .gown _ _ _,_=>True
 | .fn _ _,_=>True
 | .bm _ _,_=>True
 | .unk,_=>True
def BorNL(M0 M:Mem)(H:Hp):List AV→List Value→Prop
 | [],us=>us=[]
 | v :: l,us=>∃u r,us=u :: r∧BorN M0 M H v u∧BorNL M0 M H l r
end
section
variable {ρ:Rho}{M0 M:Mem}{H:Hp}{w:World}
mutual
theorem borN_is(hM:HoldH ρ M0 M H w):∀(v:AV) (u:Value),(∀j∈v.ment,(lkH H j).isSome=true)→v.is ρ u→BorN M0 M H v u
 | .ext _,_,_,h=>h
 | .slo k off n z,u,hj,h=>by
  obtain ⟨x,hx⟩:=Option.isSome_iff_exists.1 (hj k (by simp[AV.ment]))
  exact ⟨slo_fresh h fun b hb=>(hM k x.1 x.2 b hx hb).2,fun T cs hk hl=>slo_SlMo h (by simpa using hl) fun b hb=>(hM k T _ b hk hb).1⟩
 | .ag t l,u,hj,h=>by
  obtain ⟨us,h1,h2⟩:=h
  exact ⟨us,borNL_is hM l us hj h1,h2⟩
 | .own _ _,_,_,_=>trivial
 | .gd _ _,_,_,_=>trivial
 | .gown _ _ _,_,_,_=>trivial
 | .fn _ _,_,_,_=>trivial
 | .bm _ _,_,_,_=>trivial
 | .unk,_,_,_=>trivial
theorem borNL_is(hM:HoldH ρ M0 M H w):∀(l:List AV) (us:List Value),(∀j∈mentL l,(lkH H j).isSome=true)→isL ρ l us→BorNL M0 M H l us
 | [],us,_,h=>h
 | v :: l,us,hj,h=>by
  obtain ⟨u,r,h0,h1,h2⟩:=h
  exact ⟨u,r,h0,borN_is hM v u (fun j hm=>hj j (by simp only[mentL,List.mem_append];exact .inl hm)) h1,borNL_is hM l r (fun j hm=>hj j (by simp only[mentL,List.mem_append];exact .inr hm)) h2⟩
end
end
def FrzA(K:AV→Hp→Mem→Prop)(H:Hp)(v:AV)(F:Hp)(M':Mem):Prop:=K v F M'∨closedH F∧(∀j∈v.ment,(lkH F j).isSome=true)∧(∀j,(lkH F j).isSome=true→lkH H j=none)∧∀u M'',Mem.le M' M''→BorN M' M'' F v u→K (.ext u) [] M''
open Classical in
theorem CallS.frzA{P:Program}{f:FuncId}{args:List AV}{H:Hp}{M:Mem}{K:AV→Hp→Mem→Prop}(h:CallS P f args H M [] (FrzA K H))(hH:H=[]):CallS P f args H M [] K:=by
 subst hH
 intro ρ w us hh he
 refine (h ρ w us hh he).mono fun e w' hall=>?_
 obtain ⟨x,v,F,M',ρ',e1,hor,hl⟩:=hall
 rcases hor with hor|⟨hc,hvF,hoff,hK⟩
 ·exact ⟨x,v,F,M',ρ',e1,hor,hl⟩
 let B:Nat→Prop:=fun b=>∃j y,(lkH F j).isSome=true∧ρ' j=some y∧y.b=b
 let M'':Mem:=fun b=>if B b then w'.heap[b]? else M' b
 have hMB:∀b,B b→M' b=none:=fun b ⟨j,y,hj,hy,e⟩=>by
  obtain ⟨q,hq⟩:=Option.isSome_iff_exists.1 hj
  rw[←e];exact (hl.heap.hp j q.1 q.2 y hq hy).2
 have hle:Mem.le M' M'':=fun b o hb=>by
  by_cases hB:B b
  ·rw[hMB b hB]at hb;cases hb
  ·simp only[M'',if_neg hB];exact hb
 have hbor:BorN M' M'' F v x:=borN_is (w:=w') (ρ:=ρ') (fun j T cs b hj hb=>by
  obtain ⟨⟨arr,h1⟩,h2⟩:=hl.heap.hp j T cs b hj hb
  have hB:B b.b:=⟨j,b,by rw[hj];rfl,hb,rfl⟩
  exact ⟨⟨arr,by simp only[M'',if_pos hB];exact h1.there,h1⟩,h2⟩) v x hvF hl.is
 let ρ2:Rho:=fun j=>if (lkH F j).isSome=true then ρ j else ρ' j
 have hρ:∀j,lkH F j=none→ρ' j=ρ2 j:=fun j hj=>by simp only[ρ2,hj];simp
 refine ⟨x,_,[],M'',ρ2,e1,hK x M'' hle hbor,?_⟩
 refine {is:=rfl,heap:=⟨fun j T' ds b hj hb=>(by simp[lkH]at hj),fun j T' ds hj hb=>(by simp[lkH]at hj),fun j j' b b' hj hj' hb hb' e=>(by simp[lkH]at hj),fun b o hb=>?_⟩,keep:=fun j hj=>?_,same:=fun j hj hm=>?_,ment:=fun j hj=>?_,fresh:=fun j b hj hb=>(by simp[lkH]at hj),os:=hl.os,tape:=hl.tape,output:=hl.output,size:=hl.size,block:=hl.block,le:=hl.le.trans hle,mem:=fun b hb=>?_}
 ·by_cases hB:B b
  ·simp only[M'',if_pos hB]at hb;exact hb
  ·simp only[M'',if_neg hB]at hb;exact hl.heap.sub b o hb
 ·simp[lkH]at hj
 ·by_cases e:(lkH F j).isSome=true
  ·simp only[ρ2,if_pos e]
  ·have e2:lkH F j=none:=by cases h:lkH F j with
    | none=>rfl
    | some y=>rw[h]at e;exact absurd rfl e
   rw[←hρ j e2]
   exact hl.same j (.inr e2) hm
 ·exact ⟨by simp[AV.ment],fun i T' ds hi=>by simp[lkH]at hi⟩
 ·by_cases hB:B b
  ·obtain ⟨j,y,hj,hy,rfl⟩:=hB
   rcases hl.fresh j y hj hy with h6|⟨j',q',h6,h7,h8⟩
   ·exact .inr h6
   ·simp[lkH]at h6
  ·simp only[M'',if_neg hB]at hb
   exact hl.mem b hb
theorem facG_con2(s:Nat):∀(L L':List FR) (j:Nat),L.map prV=L'.map prV→facG s j L=facG s j L'
 | [],[],_,_=>rfl
 | [],_ :: _,_,h=>by simp at h
 | _ :: _,[],_,h=>by simp at h
 | x :: r,y :: q,j,h=>by
  rw[List.map_cons,List.map_cons,List.cons.injEq]at h
  have h1:x.l1=y.l1∧x.l2=y.l2:=Prod.mk.injEq ..▸h.1
  rw[facG,facG,facG_con2 s r q _ h.2]
  unfold facE
  rw[h1.1,h1.2]
theorem newB_con2{l:List Int}{P D:List FR}{m:Int}(h:D.map prV=P.map prV):newB l D m=newB l P m:=by
 have hl:D.length=P.length:=by have:=congrArg List.length h;simpa using this
 have hw:newW D=newW P:=funext fun s=>by unfold newW;rw[facG_con2 s D P 0 h]
 unfold newB
 rw[hl,all_cong innF D P h,hw]
theorem chkC_cong{l:List Int}{P D:List FR}{fl dt d:LP}{m:Int}(h:D.map prV=P.map prV):chkC l D fl dt d m=chkC l P fl dt d m:=by
 unfold chkC
 rw[newB_con2 h]
theorem numF_cong{P D:List FR}(h:D.map prV=P.map prV):D.map numF=P.map numF:=by
 have h2:=congrArg (fun t=>t.map numL) h
 simp only[List.map_map]at h2
 exact h2
theorem playS_cong{l u:List Int}{P D:List FR}{fl dt d:LP}{m:Int}{b:List Bool}(h:D.map prV=P.map prV):playS l D fl dt d m u b=playS l P fl dt d m u b:=by
 unfold playS
 rw[chkC_cong h,numF_cong h]
theorem pureH_closed{F:Hp}(h:pureH F):closedH F:=fun k T cs j hk hj=>by
 obtain ⟨vs,rfl⟩:=pureH_lk h hk
 rw[mentL_ext]at hj
 cases hj
theorem FrzA.search{K:AV→Hp→Mem→Prop}{M':Mem}{k1 k2 n1 n2:Nat}{T1 T2:TypeId}{a0 a1 a2 a3 a4 a5 a6 a7 a8 e:Value}{us:List Int}{bs:List Bool}{F:Hp}(hF1:lkH F k1=some (T1,cE intV64 us))(hF2:lkH F k2=some (T2,cE Value.bool bs))(hn1:n1=us.length)(hn2:n2=bs.length)(hp:pureH F)
  (h:∀uq uf M'',Mem.le M' M''→IsL M'' intV64 uq us→IsL M'' Value.bool uf bs→FreshS M' uq→FreshS M' uf→K (.ext (.tuple #[.agg #[a0,a1,a2,a3,a4,a5,a6,a7,a8,uq,uf],e])) [] M'') :
  FrzA K [] (.ag true [.ag false [.ext a0,.ext a1,.ext a2,.ext a3,.ext a4,.ext a5,.ext a6,.ext a7,.ext a8,.slo k1 0 n1 1,.slo k2 0 n2 1],.ext e]) F M':=by
 subst hn1 hn2
 refine .inr ⟨pureH_closed hp,fun j hj=>?_,fun j _=>rfl,fun u M'' hM hb=>?_⟩
 ·simp only[AV.ment,mentL,List.nil_append,List.append_nil,List.mem_append,List.mem_singleton]at hj
  rcases hj with rfl|rfl
  ·rw[hF1];rfl
  ·rw[hF2];rfl
 ·simp only[BorN,BorNL]at hb
  obtain ⟨_,⟨_,_,rfl,⟨_,⟨x0,r0,rfl,rfl,x1,r1,rfl,rfl,x2,r2,rfl,rfl,x3,r3,rfl,rfl,x4,r4,rfl,rfl,x5,r5,rfl,rfl,x6,r6,rfl,rfl,x7,r7,rfl,rfl,x8,r8,rfl,rfl,uq,r9,rfl,⟨f1,q1⟩,uf,r10,rfl,⟨f2,q2⟩,rfl⟩,rfl⟩,_,_,rfl,rfl,rfl⟩,rfl⟩:=hb
  have g1:=q1 T1 _ hF1 (by simp)
  have g2:=q2 T2 _ hF2 (by simp)
  rw[List.drop_zero,List.take_of_length_le (by simp)]at g1 g2
  exact h uq uf M'' hM g1 g2 f1 f2
structure SeF (M0:Mem) (w:SeV) (D:List FR):Prop where
 c:CopF M0 w D
 q:FreshS M0 w.uq
 f:FreshS M0 w.uf
theorem IsF.move36{M' M'' M3:Mem}{u1 u2:Value}{l1 l2:List Nat}(h:IsF M'' u1 u2 l1 l2)(f1:FreshS M' u1)(f2:FreshS M' u2)(h3:∀b,M' b=none→M3 b=M'' b):IsF M3 u1 u2 l1 l2:=⟨h.n.move f1 h3,h.d.move f2 h3,h.on,h.od,h.bn,h.bd⟩
theorem SeR.move{M' M'' M3:Mem}{w:SeV}{l:List Int}{D:List FR}{fl dt d:LP}{u:List Int}{b:List Bool}(h:SeR M'' w l D fl dt d u b)(hf:SeF M' w D)(h3:∀b,M' b=none→M3 b=M'' b):SeR M3 w l D fl dt d u b:=
 ⟨h.r.move hf.c.r h3,SlM.move h.p hf.c.p h3,fun x hx=>(h.o x hx).move36 (hf.c.o x hx).1 (hf.c.o x hx).2 h3,h.y.move36 hf.c.y1 hf.c.y2 h3,h.x.move36 hf.c.x1 hf.c.x2 h3,h.d.move36 hf.c.d1 hf.c.d2 h3,h.lb,h.pb,h.q.move hf.q h3,h.f.move hf.f h3,h.qb,h.fb⟩
section
variable {M:Mem}{K:AV→Hp→Mem→Prop}{v:SeV}{l u:List Int}{P:List FR}{fl dt d:LP}{b:List Bool}
theorem cnew_ok(h:SeR M v l P fl dt d [] [])(hq:v.uq=.slice none 0 0)(hf:v.uf=.slice none 0 0)
  (hK0:chkC l P fl dt d v.most≠0→∀M',Mem.le M M'→K (.ext (.tuple #[se0V,.int .i64 (chkC l P fl dt d v.most)])) [] M')
  (hK:chkC l P fl dt d v.most=0→∀(w:SeV) D M',Mem.le M M'→SeF M w D→D.map prV=P.map prV→w.most=v.most→SeR M' w l D fl dt d [] []→K (.ext (.tuple #[w.v,.int .i64 0])) [] M') :
  CallS Tryz.prog 14 [.ext (.agg #[v.ur]),.ext v.up,.ext (.agg #[v.y1,v.y2,v.x1,v.x2]),.ext (.agg #[v.d1,v.d2]),.ext (.int .i64 v.most)] [] M [] K:=by
 refine CallS.frzA ?_ rfl
 refine inlS (cs:=[]) Tryz.mixed Tryz.func14 rfl (by kernel_rfl) 0 rfl rfl ?_
 simp only[Tryz.f14]
 have oo:=h.ones
 have hve:v.v=.agg #[v.ur,v.up,v.y1,v.y2,v.x1,v.x2,v.d1,v.d2,.int .i64 v.most,.slice none 0 0,.slice none 0 0]:=by unfold SeV.v;rw[hq,hf]
 have hck:=fun K=>ccheck_ok (K:=K) h
 rw[hve]at hck
 have hf:=oo;refine wS ?_;refine kN 43 (hck _ (fun M1 m1=>sG ?_));all_goals clear hf
 have m1:Mem.le M M1:=m1
 by_cases z1:chkC l P fl dt d v.most=0
 case neg=>
  have d1:decide (chkC l P fl dt d v.most=0)=false:=decide_eq_false z1
  have hk:=hK0 z1 M1 m1
  unfold se0V at hk
  refine wG (A2 oo d1) ?_
  exact .inl hk
 have hcp:=fun K=>ccopied_ok (K:=K) (h.le m1) rfl
 rw[hve]at hcp
 have hf:=A2 oo z1;refine wH ?_;refine kN 44 (hcp _ (fun w D M2 m2 hcf hm g1 g2 g3 g4 g5 g6 g7=>sG ?_));all_goals clear hf
 have m2:Mem.le M1 M2:=m2
 have hpl:D.length=P.length:=by have:=congrArg List.length g4;simpa using this
 have p1:=g1.one
 have p2:=g2.one
 have p3:=g5.n.one
 have p4:=g5.d.one
 have p5:=g6.n.one
 have p6:=g6.d.one
 have p7:=g7.n.one
 have p8:=g7.d.one
 refine wG (A12 oo p1 p2 p3 p4 p5 p6 p7 p8 @cE_ment @cE_kill @hasK_nil) ?_
 refine FrzA.search (T1:=3) (T2:=4) (us:=[]) (bs:=[]) rfl rfl rfl rfl (by simp[pureH,cE]) (fun uq uf M3 m3 q1 q2 j1 j2=>?_)
 have hk:=hK z1 ⟨w.ur,w.up,w.y1,w.y2,w.x1,w.x2,w.d1,w.d2,v.most,uq,uf⟩ D M3 (m1.trans (m2.trans m3)) ⟨⟨hcf.r.le m1,hcf.p.le m1,fun x hx=>⟨(hcf.o x hx).1.le m1,(hcf.o x hx).2.le m1⟩,hcf.y1.le m1,hcf.y2.le m1,hcf.x1.le m1,hcf.x2.le m1,hcf.d1.le m1,hcf.d2.le m1⟩,j1.le (m1.trans m2),j2.le (m1.trans m2)⟩ g4 rfl ⟨g1.le m3,g2.le m3,g3.le m3,g5.le m3,g6.le m3,g7.le m3,h.lb,by rw[hpl];exact h.pb,q1,q2,by simp,by simp⟩
 exact hk
theorem creport_ok(failed:Bool)(h:SeR M v l P fl dt d u b)
  (hK0:playS l P fl dt d v.most u b=none→∀M',Mem.le M M'→K (.ext (.tuple #[se0V,.int .i64 1])) [] M')
  (hK1:∀X,playS l P fl dt d v.most u b=some X→(nextX l (setsL l 2) (numL d) v.most X u.length).2≠0→∀M',Mem.le M M'→K (.ext (.tuple #[se0V,.int .i64 (nextX l (setsL l 2) (numL d) v.most X u.length).2])) [] M')
  (hK:∀X,playS l P fl dt d v.most u b=some X→(nextX l (setsL l 2) (numL d) v.most X u.length).2=0→∀(w:SeV) D M',Mem.le M M'→D.map prV=P.map prV→w.most=v.most→SeR M' w l D fl dt d (u++[(nextX l (setsL l 2) (numL d) v.most X u.length).1]) (b++[failed])→K (.ext (.tuple #[w.v,.int .i64 0])) [] M') :
  CallS Tryz.prog 23 [.ext v.v,.ext (.bool failed)] [] M [] K:=by
 refine CallS.frzA ?_ rfl
 refine inlS (cs:=[]) Tryz.mixed Tryz.func23 rfl (by kernel_rfl) 0 rfl rfl ?_
 simp only[Tryz.f23]
 have oo:=h.ones
 have hf:=A2 @SeV.v.eq_1 oo;refine wS ?_;refine kN 22 (cNext_ok h (fun hp M1 m1=>sG ?_) (fun X M1 hp m1=>sG ?_));all_goals clear hf
 ·have hk:=hK0 hp M1 m1
  unfold se0V at hk
  refine wG oo ?_
  exact .inl hk
 have m1:Mem.le M M1:=m1
 by_cases e0:(nextX l (setsL l 2) (numL d) v.most X u.length).2=0
 case neg=>
  have hk:=hK1 X hp e0 M1 m1
  unfold se0V at hk
  have y2:decide ((nextX l (setsL l 2) (numL d) v.most X u.length).2=0)=false:=decide_eq_false e0
  refine wG (A2 oo y2) ?_
  exact .inl hk
 have hs:=hp
 unfold playS at hs
 by_cases hh:chkC l P fl dt d v.most=0∧u.length=b.length∧(u.length:Int)≤v.most
 case neg=>rw[if_neg hh]at hs;cases hs
 obtain ⟨z1,z2,z3⟩:=hh
 have hvm:=(h.ok z1).2.2.1
 clear hs
 have hf:=A2 oo e0;refine wH ?_;refine kN 44 (ccopied_ok (h.le m1) z2 (fun w D M2 m2 hcf hm g1 g2 g3 g4 g5 g6 g7=>sG ?_));all_goals clear hf
 have m2:Mem.le M1 M2:=m2
 have hpl:D.length=P.length:=by have:=congrArg List.length g4;simpa using this
 have p1:=g1.one
 have p2:=g2.one
 have p3:=g5.n.one
 have p4:=g5.d.one
 have p5:=g6.n.one
 have p6:=g6.d.one
 have p7:=g7.n.one
 have p8:=g7.d.one
 have hkk:=hK X hp e0
 generalize (nextX l (setsL l 2) (numL d) v.most X u.length).1=p at *
 have ap1:cE intV64 u++[.ext (.int .i64 p)]=cE intV64 (u++[p]):=cE_snoc intV64 u p
 have ap2:cE Value.bool b++[.ext (.bool failed)]=cE Value.bool (b++[failed]):=cE_snoc Value.bool b failed
 have hl1:(cE intV64 u).length=u.length:=cE_len ..
 have hl2:(cE Value.bool b).length=b.length:=cE_len ..
 refine Stop.go ?_
 have hf:=A12 oo p1 p2 p3 p4 p5 p6 p7 p8 ap1 ap2 (A5 hl1 hl2 @cE_ment @cE_kill @hasK_nil);refine sF ?_;(repeat' ((first|((with_reducible refine isE 19 (by decide) ?_);refine dR ((0,[]) :: (1,[]) :: (2,[1]) :: (3,[1]) :: (5,[1]) :: (6,[1]) :: (7,[1,6]) :: (8,[1,6]) :: (4,[5,6,7,8]) :: (10,[]) :: (9,[10]) :: (rP 11 3 [] [])) (rgL 19 11 []) [] ?_)|refine oB ?_|fail)<;>refine sF ?_<;>try with_reducible exact tT))<;>try clear hf
 refine FrzA.search (T1:=3) (T2:=4) (us:=u++[p]) (bs:=b++[failed]) rfl rfl (by simp) (by simp) ⟨⟨_,rfl⟩,⟨_,rfl⟩,trivial⟩ (fun uq uf M3 m3 q1 q2 j1 j2=>?_)
 have hqb:=h.qb
 have hfb:=h.fb
 exact hkk ⟨w.ur,w.up,w.y1,w.y2,w.x1,w.x2,w.d1,w.d2,v.most,uq,uf⟩ D M3 (m1.trans (m2.trans m3)) g4 rfl ⟨g1.le m3,g2.le m3,g3.le m3,g5.le m3,g6.le m3,g7.le m3,h.lb,by rw[hpl];exact h.pb,q1,q2,by simp only[List.length_append,List.length_singleton];omega,by simp only[List.length_append,List.length_singleton];omega⟩
theorem cnew_bor(k n:Nat)(T:TypeId)(hn:n=P.length)(h:SeR M v l [] fl dt d [] [])(h3:okFL M P)(b2:P.length<1000000)(hc:chkC l P fl dt d v.most=0)
  (hK:∀(w:SeV) D M',Mem.le M M'→D.map prV=P.map prV→w.most=v.most→SeR M' w l D fl dt d [] []→K (.ext (.tuple #[w.v,.int .i64 0])) [(k,T,frC P)] M') :
  CallS Tryz.prog 14 [.ext (.agg #[v.ur]),.slo k 0 n 2,.ext (.agg #[v.y1,v.y2,v.x1,v.x2]),.ext (.agg #[v.d1,v.d2]),.ext (.int .i64 v.most)] [(k,T,frC P)] M [] K:=by
 refine CallS.bor ⟨⟨_,rfl⟩,trivial⟩ fun us M' hM hb'=>?_
 obtain ⟨_,_,rfl,rfl,v1,_,rfl,hv,_,_,rfl,rfl,_,_,rfl,rfl,_,_,rfl,rfl,rfl⟩:=hb'
 have g1:=hv.isR (L:=P) (T:=T) (by simp[lkH]) hn
 refine cnew_ok (v:=⟨v.ur,v1,v.y1,v.y2,v.x1,v.x2,v.d1,v.d2,v.most,.slice none 0 0,.slice none 0 0⟩) ⟨h.r.le hM,g1,h3.le hM,h.y.le hM,h.x.le hM,h.d.le hM,h.lb,b2,isL_nil _ _ _,isL_nil _ _ _,by simp,by simp⟩ rfl rfl (fun hne=>absurd hc hne) (fun _ w D M2 m2 hf hD hm hR=>?_)
 exact ⟨fun j hj=>rfl,fun M3 h5 h6 _=>hK w D M3 h5 hD hm (hR.move hf h6)⟩
end
section
variable {M:Mem}{K:AV→Hp→Mem→Prop}
def pl36St(M:Mem)(n i m:Nat)(L:List Int):St:={env:=[(4,.ext (.int .i64 (i:Int))),(3,.own 3 0),(2,.own 2 0),(0,.ext (.int .i64 (n:Int)))],hp:=[(190,3,cE intV64 L),(3,27,[.slo 190 0 m 1]),(2,27,[.ext (.slice none 0 0)])],M:=M,kb:=0,fx:=[]}
theorem repl_succ36(i:Nat):List.replicate (i+1) (-1:Int)=List.replicate i (-1)++[-1]:=by rw[List.replicate_succ']
theorem plain36_ok(n:Nat)(hn:n≤100)(hK:K (.ag false [.slo 190 0 n 1]) [(190,3,cE intV64 (List.replicate n (-1)))] M):CallS Tryz.prog 20 [.ext (.int .i64 (n:Int))] [] M [] K:=by
 refine inlS (cs:=[]) Tryz.mixed Tryz.func20 rfl (by kernel_rfl) 0 rfl rfl ?_
 simp only[Tryz.f20]
 (try with_reducible refine Fz.of ?_);refine sU ?_;(repeat' ((first|refine oB ?_|fail)<;>refine sU ?_<;>try with_reducible exact tT))
 refine ⟨fun d z=>∃i m,i≤n∧m=i∧d=n-i∧z=pl36St M n i m (List.replicate i (-1)),⟨n,pl36St M n 0 0 [],(le_nilC 3 190 27 3 1 rfl (.inl rfl)).trans (le_sub ⟨rfl,rfl,rfl,rfl,trivial⟩ ⟨rfl,rfl,rfl,trivial⟩ rfl rfl rfl (keepLt0 _)),⟨0,0,by omega,rfl,by omega,rfl⟩⟩,?_⟩
 rintro d z ⟨i,m,hi,hm,rfl,rfl⟩
 by_cases hlt:i<n
 ·have d1:decide ((i:Int)<(n:Int))=true:=by simp;omega
  have hw:IntKind.i64.wrap ((i:Int)+1)=((i+1:Nat):Int):=by rw[wrap_id (by omega) (by omega)];omega
  have hlen:(cE intV64 (List.replicate i (-1))).length=m:=by rw[cE_len,List.length_replicate];exact hm.symm
  have hsn:cE intV64 (List.replicate i (-1))++[.ext (.int .i64 (-1))]=cE intV64 (List.replicate (i+1) (-1)):=by
   rw[repl_succ36];exact cE_snoc intV64 _ (-1)
  have hkl:killL 190 (cE intV64 (List.replicate i (-1)))=cE intV64 (List.replicate i (-1)):=by
   unfold cE
   generalize (List.replicate i (-1)).map intV64=vs
   induction vs with
   | nil=>rfl
   | cons a t ih=>simp only[List.map_cons,killL,AV.kill,ih]
  refine wT (A7 d1 hw hlen hsn @cE_ment @hasK_nil @pl36St.eq_1) ?_
  exact ⟨n-(i+1),pl36St M n (i+1) (m+1) (List.replicate (i+1) (-1)),by omega,le_sub ⟨rfl,rfl,rfl,rfl,trivial⟩ ⟨rfl,rfl,rfl,trivial⟩ rfl rfl rfl (keepLt0 _),i+1,m+1,by omega,by omega,rfl,rfl⟩
 ·have d1:decide ((i:Int)<(n:Int))=false:=by simp;omega
  have ei:i=n:=by omega
  subst ei
  subst hm
  refine wT (A4 d1 @cE_ment @hasK_nil @pl36St.eq_1) ?_
  exact hK
theorem pick5k38_ok(u:Value)(l:List Int)(p:Nat)(L:List Int)(hL:L.length=5)(hu:IsL M intV64 u l)(hp:p<1000000)(hK:∀x∈L,K (.ext (.int .i64 x)) [(38,25,[.ext u,.ext (.int .i64 ((p+1:Nat):Int))]),(173,3,cE intV64 L)] M) :
  CallS Tryz.prog 42 [.own 38 0,.slo 173 0 5 1] [(173,3,cE intV64 L),(38,25,[.ext u,.ext (.int .i64 ((p:Nat):Int))])] M [] K:=by
 refine inlS (cs:=[]) Tryz.mixed Tryz.func42 rfl (by kernel_rfl) 200 rfl rfl ?_
 simp only[Tryz.f42]
 have hf:=A6 @cE_ment @cE_len @cE_kill @hasK_nil @Nat.mul_one hu.one;refine wS ?_;refine yH 13 ?_;refine sF ?_;refine nextI_ok 38 u l p 5 hu (by omega) (by omega) (by omega) (fun x hx0 hx1=>sG ?_);all_goals clear hf
 obtain ⟨j,rfl⟩:=Int.eq_ofNat_of_zero_le hx0
 have hj:j<L.length:=by omega
 have hat:=cE_at intV64 hj
 have hm:L[j]∈L:=List.getElem_mem hj
 have a1:(0:Int)≤(j:Int):=by omega
 have a2:(j:Int)<5:=by omega
 have a3:(j:Int)<((5:Nat):Int):=by omega
 generalize L[j]=y at *
 refine wG (A11 @cE_ment @cE_len @cE_kill @hasK_nil @Nat.mul_one hu.one hat a1 a2 a3 @intV64.eq_1) ?_
 exact hK _ hm
def d36C(n i:Nat)(mo:Int):List AV:=[.slo 190 0 n 1,.slo 149 0 i 2,nilE,nilE,nilE,nilE,nilE,nilE,.ext (.int .i64 mo),nilE,nilE]
def d36St(M:Mem)(u:Value)(p i n:Nat)(mo:Int)(L:List Int)(D:List FR):St:={env:=[(8,.ext (.int .i64 (i:Int))),(7,.own 107 0),(6,.own 106 0),(0,.own 38 0)],hp:=[(149,32,frC D),(190,3,cE intV64 L),(107,37,d36C n i mo),(106,37,se0),(38,25,[.ext u,.ext (.int .i64 (p:Int))])],M:=M,kb:=100,fx:=[38]}
def d36D(wr wp y1 y2 x1 x2:Value)(mo:Int):List AV:=[.ext wr,.ext wp,.ext y1,.ext y2,.ext x1,.ext x2,nilE,nilE,.ext (.int .i64 mo),nilE,nilE]
def d36E(M:Mem)(u:Value)(p:Nat)(wr wp y1 y2 x1 x2:Value)(mo:Int):St:={env:=[(7,.own 107 0),(6,.own 106 0),(0,.own 38 0)],hp:=[(107,37,d36D wr wp y1 y2 x1 x2 mo),(106,37,se0),(38,25,[.ext u,.ext (.int .i64 (p:Int))])],M:=M,kb:=100,fx:=[38]}
theorem drawn38_ok(u:Value)(l:List Int)(m k:Nat)(hm0:0<m)(hm:m≤4)(hk0:0<k)(hk:k≤8)(hu:IsL M intV64 u l)
  (hK:∀(v:SeV) L P N f g dl (p:Nat) M',p≤100→Mem.le M M'→SeI M' v L P N f g dl→L.length≤m→v.uq=.slice none 0 0→v.uf=.slice none 0 0→f.1*g.2<g.1*f.2→1≤v.most→v.most≤k→K (.ext v.v) [(38,25,[.ext u,.ext (.int .i64 (p:Int))])] M') :
  CallS Tryz.prog 10 [.own 38 0,.ext (.int .i64 (m:Int)),.ext (.int .i64 (k:Int))] [(38,25,[.ext u,.ext (.int .i64 (0:Int))])] M [] K:=by
 refine inlS (cs:=[7,8,12]) Tryz.mixed Tryz.func10 rfl (by kernel_rfl) 100 rfl rfl ?_
 simp only[Tryz.f10]
 have e0:keysH [(38,25,[AV.ext u,AV.ext (.int .i64 (0:Int))])]=[38]:=rfl
 have hf:=hu.one;refine wS ?_;(first|refine yH 13 ?_|refine yG 13 ?_);refine sF ?_;refine nextI_ok 38 u l 0 (m:Int) hu (by omega) (by omega) (by omega) (fun x hx0 hx1=>sG ?_);all_goals clear hf
 obtain ⟨q,rfl⟩:=Int.eq_ofNat_of_zero_le hx0
 have hwq:IntKind.i64.wrap (1+(q:Int))=((q+1:Nat):Int):=by rw[wrap_id (by omega) (by omega)];omega
 have hf:=A4 hwq hu.one @cE_ment @hasK_nil;refine wH ?_;refine kN 20 (plain36_ok (q+1) (by omega) (sG ?_));all_goals clear hf
 have hq8:q+1≤m:=by omega
 have hf:=A3 hu.one @cE_ment @hasK_nil;refine wH ?_;(first|refine yH 13 ?_|refine yG 13 ?_);refine sF ?_;refine nextI_ok 38 u l 1 (k:Int) hu (by omega) (by omega) (by omega) (fun y hy0 hy1=>sG ?_);all_goals clear hf
 obtain ⟨r,rfl⟩:=Int.eq_ofNat_of_zero_le hy0
 have hwr:IntKind.i64.wrap (1+(r:Int))=((r+1:Nat):Int):=by rw[wrap_id (by omega) (by omega)];omega
 obtain ⟨n,hn⟩:∃n,n=q+1:=⟨_,rfl⟩
 rw[←hn]at hq8 ⊢
 have hn1:1≤n:=by omega
 clear hwq hx0 hx1
 refine wG (A4 hwr hu.one @cE_ment @hasK_nil) ?_
 obtain ⟨mo,hmo⟩:∃mo:Int,mo=((r+1:Nat):Int):=⟨_,rfl⟩
 rw[←hmo]
 have hmo1:1≤mo∧mo≤k:=by omega
 clear hwr hy0 hy1
 refine ⟨fun z=>∃M' p L D,p≤60∧Mem.le M M'∧L.length=n∧rOK L L.length∧PriI M' D n∧z=d36St M' u p n n mo L D,?_,?_⟩
 ·refine wT (A3 hu.one @cE_ment @hasK_nil) ?_
  refine ⟨fun d z=>∃M' p L D i,d=n-i∧i≤n∧p≤6*i+2∧Mem.le M M'∧L.length=n∧rOK L L.length∧PriI M' D i∧z=d36St M' u p i n mo L D,
   ⟨n,d36St M u 2 0 n mo (List.replicate n (-1)) [],(le_nilH 107 1 149 32 37 [.slo 190 0 n 1,nilE,nilE,nilE,nilE,nilE,nilE,nilE,.ext (.int .i64 mo),nilE,nilE] 2 rfl rfl (.inl (by simp[awayB,mentE,mentH,mentL,AV.ment,hasK,cE_ment]))).trans (le_sub ⟨rfl,rfl,rfl,rfl,trivial⟩ ⟨rfl,rfl,rfl,rfl,rfl,trivial⟩ rfl rfl rfl (keepLt_of rfl)),⟨M,2,_,[],0,by omega,by omega,by omega,Mem.le.refl _,List.length_replicate,rOK_repl _,⟨rfl,fun x hx=>(by cases hx),[],rfl,fun p hp=>(by cases hp)⟩,rfl⟩⟩,?_⟩
  rintro d z ⟨M1,p,L,D,i,rfl,hi,hp,hM,hL,hr,hD,rfl⟩
  have hu1:=hu.le hM
  by_cases hlt:i<n
  case neg=>
   obtain rfl:i=n:=by omega
   have d1:decide ((i:Int)<(i:Int))=false:=by simp
   refine wT (A11 @d36St.eq_1 @d36C.eq_1 @se0.eq_1 @nilE.eq_1 d1 hu.one @cE_ment @frC_ment @frC_kill @cE_kill @hasK_nil) ?_
   exact ⟨d36St M1 u p i i mo L D,le_sub ⟨rfl,rfl,rfl,rfl,trivial⟩ ⟨rfl,rfl,rfl,rfl,rfl,trivial⟩ rfl rfl rfl (keepLt_of rfl),M1,p,L,D,by omega,hM,hL,hr,hD,rfl⟩
  have d1:decide ((i:Int)<(n:Int))=true:=by rw[decide_eq_true_eq];omega
  have d2:(i:Int)<(n:Int):=by omega
  have d3:(0:Int)≤(i:Int):=by omega
  have hw:IntKind.i64.wrap ((i:Int)+1)=((i+1:Nat):Int):=succ_i (by omega)
  have hlen:(cE intV64 L).length=n:=by rw[cE_len];exact hL
  refine wT (A11 @d36St.eq_1 @d36C.eq_1 @se0.eq_1 @nilE.eq_1 d1 hu.one @cE_ment @frC_ment @frC_kill @cE_kill @hasK_nil) ?_
  refine ⟨fun z=>∃p' L',L'.length=n∧rOK L' L'.length∧p'≤p+2∧z=d36St M1 u p' i n mo L' D,?_,?_⟩
  ·rcases Nat.eq_zero_or_pos i with hi0|hi0
   ·have g0:decide ((0:Int)<(i:Int))=false:=by rw[decide_eq_false_iff_not];omega
    refine wT (A11 @d36St.eq_1 @d36C.eq_1 @se0.eq_1 @nilE.eq_1 g0 hu.one @cE_ment @frC_ment @frC_kill @cE_kill @hasK_nil) ?_
    exact ⟨d36St M1 u p i n mo L D,le_sub ⟨rfl,rfl,rfl,rfl,trivial⟩ ⟨rfl,rfl,rfl,rfl,rfl,trivial⟩ rfl rfl rfl (keepLt_of rfl),p,L,hL,hr,by omega,rfl⟩
   have g0:decide ((0:Int)<(i:Int))=true:=by rw[decide_eq_true_eq];omega
   have hf:=A11 @d36St.eq_1 @d36C.eq_1 @se0.eq_1 @nilE.eq_1 g0 hu.one @cE_ment @frC_ment @frC_kill @cE_kill @hasK_nil;refine wS ?_;refine yH 32 ?_;refine sF ?_;refine chance_ok 38 u l p 1 4 hu1 (by omega) (by omega) (by omega) (fun b=>sG ?_);all_goals clear hf
   cases b with
   | false=>
    refine wG (A11 @d36St.eq_1 @d36C.eq_1 @se0.eq_1 @nilE.eq_1 g0 hu.one @cE_ment @frC_ment @frC_kill @cE_kill @hasK_nil) ?_
    exact ⟨d36St M1 u (p+1) i n mo L D,le_sub ⟨rfl,rfl,rfl,rfl,trivial⟩ ⟨rfl,rfl,rfl,rfl,rfl,trivial⟩ rfl rfl rfl (keepLt_of rfl),p+1,L,hL,hr,by omega,rfl⟩
   | true=>
    refine Stop.go ?_
    (try with_reducible refine Fz.of ?_);have hf:=A12 @d36St.eq_1 @d36C.eq_1 @se0.eq_1 @nilE.eq_1 g0 d2 d3 hlen hu.one @cE_ment @frC_ment (A4 @frC_kill @cE_kill @hasK_nil @Nat.mul_one);refine sF ?_;(repeat' ((first|((with_reducible first|refine yA ?_|refine yB ?_|refine yC ?_);first|refine kH 13 ?_|refine kG 13 ?_|refine kS 13 (nextI_ok 38 u l (p+1) (i:Int) hu1 (by omega) (by omega) (by omega) (fun x hx0 hx1=>Stop.mk ?_)))|((with_reducible refine isE 34 (by decide) ?_);refine dR (rP 0 3 [] (rP 3 4 [2] [(7,[]),(8,[])])) (rgL 34 7 []) [] ?_)|refine oB ?_|fail)<;>refine sF ?_<;>try with_reducible exact tT))<;>try clear hf
    have hset:(cE intV64 L).set i (.ext (.int .i64 x))=cE intV64 (L.set i x):=cE_set intV64 L i x
    refine wG (A12 @d36St.eq_1 @d36C.eq_1 @se0.eq_1 @nilE.eq_1 g0 d2 d3 hlen hset hu.one @cE_ment (A5 @frC_ment @frC_kill @cE_kill @hasK_nil @Nat.mul_one)) ?_
    exact ⟨d36St M1 u (p+1+1) i n mo (L.set i x) D,le_sub ⟨rfl,rfl,rfl,rfl,trivial⟩ ⟨rfl,rfl,rfl,rfl,rfl,trivial⟩ rfl rfl rfl (keepLt_of rfl),p+1+1,L.set i x,by rw[List.length_set];exact hL,rOK_set hr (by omega) hx1,by omega,rfl⟩
  clear hL hr hlen
  rintro z ⟨p',L',hL,hr,hp',rfl⟩
  have hlD:(frC D).length=i*2:=by rw[frC_len,hD.len]
  (try with_reducible refine Fz.of ?_);have hf:=A10 @d36St.eq_1 @d36C.eq_1 @se0.eq_1 @nilE.eq_1 hu.one @cE_ment @frC_ment @frC_kill @cE_kill @hasK_nil;refine sF ?_;(repeat' ((first|((with_reducible first|refine yA ?_|refine yB ?_|refine yC ?_);first|refine kH 13 ?_|refine kG 13 ?_|refine kS 13 (nextI_ok 38 u l p' 9 hu1 (by omega) (by omega) (by omega) (fun x hx0 hx1=>Stop.mk ?_)))|((with_reducible refine isE 42 (by decide) ?_);refine dR ((0,[]) :: (1,[]) :: (rP 2 5 [1] (rP 7 3 [] []))) (rgL 42 7 []) [] ?_)|refine oB ?_|fail)<;>refine sF ?_<;>try with_reducible exact tT))<;>try clear hf
  obtain ⟨a,rfl⟩:=Int.eq_ofNat_of_zero_le hx0
  obtain ⟨b,hb⟩:∃b,b=a+1:=⟨_,rfl⟩
  have w2:IntKind.i64.wrap (1+(a:Int))=(b:Int):=by rw[wrap_id (by omega) (by omega)];omega
  have hok:=redN_ok (n:=b) (d:=10) (by omega) (by omega) (by omega)
  refine Stop.go ?_
  (try with_reducible refine Fz.of ?_);have hf:=A10 @d36C.eq_1 @se0.eq_1 @nilE.eq_1 w2 hu.one @cE_ment @frC_ment @frC_kill @cE_kill @hasK_nil;refine sF ?_;(repeat' ((first|((with_reducible first|refine yN ?_|refine yM ?_);refine kS 12 (sml_ok b 10 (by omega) (by omega) (by omega) (fun v1 v2 M2 a1 a2 a3 _ _=>Stop.mk ?_)))|((with_reducible refine isE 42 (by decide) ?_);refine dR ((0,[]) :: (1,[]) :: (rP 2 5 [1] (rP 7 3 [] []))) (rgL 42 7 []) [] ?_)|refine oB ?_|fail)<;>refine sF ?_<;>try with_reducible exact tT))<;>try clear hf
  have a1:Mem.le M1 M2:=a1
  have p1:=a2.one
  have p2:=a3.one
  have hf:IsF M2 v1 v2 (ofN (red b 10).1) (ofN (red b 10).2):=isF_ofN a2 a3 ⟨(sm1000 (by have:=hok.le1;omega)).len,(sm1000 (by have:=hok.le1;omega)).len⟩
  have hD2:=(hD.le a1).snoc hf hok
  have ap:frC D++[.ext v1,.ext v2]=frC (D++[⟨v1,v2,ofN (red b 10).1,ofN (red b 10).2⟩]):=by simp[frC,FR.c]
  refine Stop.go ?_
  (try with_reducible refine Fz.of ?_);have hf:=A12 @d36C.eq_1 @se0.eq_1 @nilE.eq_1 p1 p2 ap hlD hw hu.one @cE_ment @frC_ment (A3 @frC_kill @cE_kill @hasK_nil);refine sF ?_;(repeat' ((first|((with_reducible refine isE 42 (by decide) ?_);refine dR ((0,[]) :: (1,[]) :: (rP 2 5 [1] (rP 7 3 [] []))) (rgL 42 7 []) [] ?_)|refine oB ?_|fail)<;>refine sF ?_<;>try with_reducible exact tT))<;>try clear hf
  exact ⟨n-(i+1),d36St M2 u (p'+1) (i+1) n mo L' (D++[⟨v1,v2,ofN (red b 10).1,ofN (red b 10).2⟩]),by omega,le_sub ⟨rfl,rfl,rfl,rfl,trivial⟩ ⟨rfl,rfl,rfl,rfl,rfl,trivial⟩ rfl rfl rfl (keepLt_of rfl),M2,_,L',_,i+1,rfl,by omega,by omega,hM.trans a1,hL,hr,hD2,rfl⟩
 ·rintro z ⟨M1,p,L,D,hp,hM,hL,hr,hD,rfl⟩
  refine Fz.bind (Fz.cellI (k:=190) (j:=107) (p0:=0) (n:=n) (q:=1) (off:=0) (T:=3) (T0:=37) (L.map intV64) [(7,.own 107 0),(6,.own 106 0),(0,.own 38 0)] [(149,32,frC D),(106,37,se0),(38,25,[.ext u,.ext (.int .i64 (p:Int))])] rfl rfl rfl (by rw[List.length_map,hL];omega) (show 100≤190 by decide) (by decide) ⟨rfl,rfl,rfl,trivial⟩ (by simp[mentE,AV.ment]) ⟨rfl,rfl,rfl,trivial⟩ (by simp[mentH,mentL,AV.ment,frC_ment,se0,nilE]) (keepLt_of rfl) (fun j hj hj2=>?_) (fun M2 wr hM2 hwr _=>?_))
  ·have hj:j<100:=hj
   show j∈[38]
   by_cases e1:j=38
   ·subst e1;decide
   exfalso
   simp only[d36St,lkH]at hj2
   rw[if_neg (by omega),if_neg (by omega),if_neg (by omega),if_neg (by omega),if_neg (by omega)]at hj2
   cases hj2
  have hM2:Mem.le M1 M2:=hM2
  refine Fz.cellI (k:=149) (j:=107) (p0:=1) (n:=n) (q:=2) (off:=0) (T:=32) (T0:=37) (D.flatMap FR.c) [(7,.own 107 0),(6,.own 106 0),(0,.own 38 0)] [(106,37,se0),(38,25,[.ext u,.ext (.int .i64 (p:Int))])] rfl rfl rfl (by rw[flat_len (z:=2) (f:=FR.c) (fun _=>rfl),hD.len];omega) (show 100≤149 by decide) (by decide) ⟨rfl,rfl,rfl,trivial⟩ (by simp[mentE,AV.ment]) ⟨rfl,rfl,trivial⟩ (by simp[mentH,mentL,AV.ment,se0,nilE]) (keepLt_of rfl) (fun j hj hj2=>?_) (fun M3 wp hM3 hwp _=>?_)
  ·have hj:j<100:=hj
   show j∈[38]
   by_cases e1:j=38
   ·subst e1;decide
   exfalso
   simp only[lkH]at hj2
   rw[if_neg (by omega),if_neg (by omega),if_neg (by omega),if_neg (by omega)]at hj2
   cases hj2
  have hM3:Mem.le M2 M3:=hM3
  rw[List.drop_zero,List.take_of_length_le (by rw[List.length_map];omega)]at hwr
  rw[List.drop_zero,List.take_of_length_le (by rw[flat_len (z:=2) (f:=FR.c) (fun _=>rfl),hD.len];omega)]at hwp
  have hv1:IsL M3 intV64 wr L:=by unfold IsL;rw[hL];exact SlM.le hwr hM3
  have hu2:IsR M3 2 FR.c wp D:=by unfold IsR;rw[hD.len];exact hwp
  have c1:=hv1.one
  have c2:=hu2.one
  have m03:=hM.trans (hM2.trans hM3)
  have hu3:=hu.le m03
  have hD3:=hD.le (hM2.trans hM3)
  have hcl:chkL L=true:=by simp only[chkL,decide_eq_true_eq];exact ⟨by omega,by omega,hr⟩
  clear hwr hwp hM2
  have hf:=A6 @d36C.eq_1 @se0.eq_1 @nilE.eq_1 c1 c2 hu.one;refine wS ?_;(first|refine yH 13 ?_|refine yG 13 ?_);refine sF ?_;refine nextI_ok 38 u l p 8 hu3 (by omega) (by omega) (by omega) (fun x hx0 hx1=>sG ?_);all_goals clear hf
  obtain ⟨m1,rfl⟩:=Int.eq_ofNat_of_zero_le hx0
  obtain ⟨a,ha⟩:∃a,a=m1+1:=⟨_,rfl⟩
  have w2:IntKind.i64.wrap (1+(m1:Int))=(a:Int):=by rw[wrap_id (by omega) (by omega)];omega
  have w3:IntKind.i64.wrap ((a:Int)+1)=((a+1:Nat):Int):=succ_i (by omega)
  have w5:IntKind.i64.wrap (9-(a:Int))=((9-a:Nat):Int):=by rw[wrap_id (by omega) (by omega)];omega
  have hok:=redN_ok (n:=a) (d:=10) (by omega) (by omega) (by omega)
  have hf:=A9 @d36C.eq_1 @se0.eq_1 @nilE.eq_1 c1 c2 w2 w3 w5 hu.one;refine wH ?_;(first|refine yN ?_|refine yM ?_);refine kS 12 (sml_ok a 10 (by omega) (by omega) (by omega) (fun v1 v2 M4 a1 a2 a3 _ _=>sG ?_));all_goals clear hf
  have a1:Mem.le M3 M4:=a1
  have p1:=a2.one
  have p2:=a3.one
  have hf:IsF M4 v1 v2 (ofN (red a 10).1) (ofN (red a 10).2):=isF_ofN a2 a3 ⟨(sm1000 (by have:=hok.le1;omega)).len,(sm1000 (by have:=hok.le1;omega)).len⟩
  have hu4:=hu3.le a1
  have hf:=A11 @d36C.eq_1 @se0.eq_1 @nilE.eq_1 c1 c2 p1 p2 w2 w3 w5 hu.one;refine wH ?_;(first|refine yH 13 ?_|refine yG 13 ?_);refine sF ?_;refine nextI_ok 38 u l (p+1) ((9-a:Nat):Int) hu4 (by omega) (by omega) (by omega) (fun z hz0 hz1=>sG ?_);all_goals clear hf
  obtain ⟨m2,rfl⟩:=Int.eq_ofNat_of_zero_le hz0
  obtain ⟨a2',hnm2⟩:∃n2,n2=a+1+m2:=⟨_,rfl⟩
  have w6:IntKind.i64.wrap (((a+1:Nat):Int)+(m2:Int))=(a2':Int):=by rw[wrap_id (by omega) (by omega)];omega
  have hok2:=redN_ok (n:=a2') (d:=10) (by omega) (by omega) (by omega)
  have hf:=A9 @d36C.eq_1 @se0.eq_1 @nilE.eq_1 c1 c2 p1 p2 w6 hu.one;refine wH ?_;(first|refine yN ?_|refine yM ?_);refine kS 12 (sml_ok a2' 10 (by omega) (by omega) (by omega) (fun v3 v4 M5 b1 b2 b3 _ _=>sG ?_));all_goals clear hf
  have b1:Mem.le M4 M5:=b1
  have p3:=b2.one
  have p4:=b3.one
  have hf2:IsF M5 v3 v4 (ofN (red a2' 10).1) (ofN (red a2' 10).2):=isF_ofN b2 b3 ⟨(sm1000 (by have:=hok2.le1;omega)).len,(sm1000 (by have:=hok2.le1;omega)).len⟩
  have hlt2:=two_lt (show a<a2' by omega) (show 0<10 by omega) (red_p (x:=a) (d:=10) (by omega)).eq (red_p (x:=a2') (d:=10) (by omega)).eq (red_p (x:=a) (d:=10) (by omega)).pos (red_p (x:=a2') (d:=10) (by omega)).pos
  refine wG (A10 @d36C.eq_1 @se0.eq_1 @nilE.eq_1 c1 c2 p1 p2 p3 p4 hu.one) ?_
  refine ⟨fun z=>∃M' y1 y2 x1 x2 f g pp,Mem.le M5 M'∧IsF M' y1 y2 (ofN f.1) (ofN f.2)∧IsF M' x1 x2 (ofN g.1) (ofN g.2)∧OkN f∧OkN g∧f.1*g.2<g.1*f.2∧pp≤80∧z=d36E M' u pp wr wp y1 y2 x1 x2 mo,?_,?_⟩
  ·have hf:=A10 @d36C.eq_1 @se0.eq_1 @nilE.eq_1 c1 c2 p1 p2 p3 p4 hu.one;refine wS ?_;refine yH 32 ?_;refine sF ?_;refine chance_ok 38 u l (p+1+1) 1 2 (hu4.le b1) (by omega) (by omega) (by omega) (fun b=>sG ?_);all_goals clear hf
   cases b with
   | false=>
    refine wG (A10 @d36C.eq_1 @se0.eq_1 @nilE.eq_1 c1 c2 p1 p2 p3 p4 hu.one) ?_
    exact ⟨d36E M5 u (p+1+1+1) wr wp v1 v2 v3 v4 mo,le_sub ⟨rfl,rfl,rfl,trivial⟩ ⟨rfl,rfl,rfl,trivial⟩ rfl rfl rfl (keepLt_of rfl),M5,v1,v2,v3,v4,red a 10,red a2' 10,_,Mem.le.refl _,hf.le b1,hf2,hok,hok2,hlt2,by omega,rfl⟩
   | true=>
    have hok3:=redN_ok (n:=1) (d:=20) (by omega) (by omega) (by omega)
    have hok4:=redN_ok (n:=19) (d:=20) (by omega) (by omega) (by omega)
    have hf:=A10 @d36C.eq_1 @se0.eq_1 @nilE.eq_1 c1 c2 p1 p2 p3 p4 hu.one;refine wH ?_;(first|refine yN ?_|refine yM ?_);refine kS 12 (sml_ok 1 20 (by omega) (by omega) (by omega) (fun v5 v6 M6 e1 e2 e3 _ _=>sG ?_));all_goals clear hf
    have e1:Mem.le M5 M6:=e1
    have p5:=e2.one
    have p6:=e3.one
    have hf3:IsF M6 v5 v6 (ofN (red 1 20).1) (ofN (red 1 20).2):=isF_ofN e2 e3 ⟨(sm1000 (by decide)).len,(sm1000 (by decide)).len⟩
    have hf:=A12 @d36C.eq_1 @se0.eq_1 @nilE.eq_1 c1 c2 p1 p2 p3 p4 p5 p6 hu.one;refine wH ?_;(first|refine yN ?_|refine yM ?_);refine kS 12 (sml_ok 19 20 (by omega) (by omega) (by omega) (fun v7 v8 M7 g1 g2 g3 _ _=>sG ?_));all_goals clear hf
    have g1:Mem.le M6 M7:=g1
    have p7:=g2.one
    have p8:=g3.one
    have hf4:IsF M7 v7 v8 (ofN (red 19 20).1) (ofN (red 19 20).2):=isF_ofN g2 g3 ⟨(sm1000 (by decide)).len,(sm1000 (by decide)).len⟩
    refine wG (A12 @d36C.eq_1 @se0.eq_1 @nilE.eq_1 c1 c2 p1 p2 p3 p4 p5 p6 (A3 p7 p8 hu.one)) ?_
    exact ⟨d36E M7 u (p+1+1+1) wr wp v5 v6 v7 v8 mo,le_sub ⟨rfl,rfl,rfl,trivial⟩ ⟨rfl,rfl,rfl,trivial⟩ rfl rfl rfl (keepLt_of rfl),M7,v5,v6,v7,v8,red 1 20,red 19 20,_,e1.trans g1,hf3.le g1,hf4,hok3,hok4,by decide,by omega,rfl⟩
  ·clear p1 p2 p3 p4 hf hf2 hok hok2 hlt2 w2 w3 w5 w6
   rintro z ⟨M6,y1,y2,x1,x2,f,g,pp,m6,hy,hxF,hof,hog,hfg,hpp,rfl⟩
   have p1:=hy.n.one
   have p2:=hy.d.one
   have p3:=hxF.n.one
   have p4:=hxF.d.one
   have m36:=a1.trans (b1.trans m6)
   have hpl:∀x∈([2,3,5,10,20]:List Int),2≤x∧x≤20:=by decide
   have hf:=A11 @d36E.eq_1 @d36D.eq_1 @se0.eq_1 @nilE.eq_1 c1 c2 p1 p2 p3 p4 hu.one;refine wS ?_;refine yH 42 ?_;refine sF ?_;refine pick5k38_ok u l pp [2,3,5,10,20] rfl (hu3.le m36) (by omega) (fun x hx=>sG ?_);all_goals clear hf
   obtain ⟨x0,x3⟩:=hpl x (by assumption)
   obtain ⟨dd,rfl⟩:=Int.eq_ofNat_of_zero_le (show 0≤x by omega)
   have hok5:=redN_ok (n:=1) (d:=dd) (by omega) (by omega) (by omega)
   have hf:=A12 @d36D.eq_1 @se0.eq_1 @nilE.eq_1 c1 c2 p1 p2 p3 p4 hu.one @cE_ment (A2 @cE_kill @hasK_nil);refine wH ?_;(first|refine yN ?_|refine yM ?_);refine kS 12 (sml_ok 1 dd (by omega) (by omega) (by omega) (fun v9 v10 M7 g1 g2 g3 _ _=>sG ?_));all_goals clear hf
   have g1:Mem.le M6 M7:=g1
   have p7:=g2.one
   have p8:=g3.one
   have hf4:IsF M7 v9 v10 (ofN (red 1 dd).1) (ofN (red 1 dd).2):=isF_ofN g2 g3 ⟨(sm1000 (by have:=hok5.le1;omega)).len,(sm1000 (by have:=hok5.le1;omega)).len⟩
   have m37:=m36.trans g1
   obtain ⟨N,hN1,hN2⟩:=hD3.val
   have hNl:N.length=L.length:=by have h1:=congrArg List.length hN1;rw[List.length_map,List.length_map,hD3.len]at h1;omega
   have hk:=hK ⟨wr,wp,y1,y2,x1,x2,v9,v10,mo,.slice none 0 0,.slice none 0 0⟩ L D N f g (red 1 dd) (pp+1) M7 (by omega) (m03.trans m37) ⟨hv1.le m37,hcl,hu2.le m37,hD3.ok.le m37,hN1,hN2,hNl,hy.le g1,hxF.le g1,hf4,hof,hog,hok5,rfl,rfl⟩ (by omega) rfl rfl hfg hmo1.1 hmo1.2
   unfold SeV.v at hk
   refine wG (A12 @d36D.eq_1 @se0.eq_1 @nilE.eq_1 c1 c2 p1 p2 p3 p4 p7 p8 (A4 hu.one @cE_ment @cE_kill @hasK_nil)) ?_
   exact hk
end
structure OdV where
 f1:Value
 f2:Value
 s1:Value
 s2:Value
 p1:Value
 p2:Value
def OdV.c(o:OdV):List AV:=[.ext o.f1,.ext o.f2,.ext o.s1,.ext o.s2,.ext o.p1,.ext o.p2]
def OdV.v(o:OdV):Value:=.agg #[o.f1,o.f2,o.s1,o.s2,o.p1,o.p2]
structure OdI (M:Mem) (o:OdV) (t:Nat×Nat×Nat) (D:Nat):Prop where
 f:IsF M o.f1 o.f2 (ofN (red t.1 D).1) (ofN (red t.1 D).2)
 s:IsF M o.s1 o.s2 (ofN (red t.2.1 D).1) (ofN (red t.2.1 D).2)
 p:IsF M o.p1 o.p2 (ofN (red t.2.2 D).1) (ofN (red t.2.2 D).2)
theorem OdI.le{M M':Mem}{o:OdV}{t:Nat×Nat×Nat}{D:Nat}(h:OdI M o t D)(hM:Mem.le M M'):OdI M' o t D:=⟨h.f.le hM,h.s.le hM,h.p.le hM⟩
theorem OdI.ones{M:Mem}{o:OdV}{t:Nat×Nat×Nat}{D:Nat}(h:OdI M o t D):o.f1.oneCell'=true∧o.f2.oneCell'=true∧o.s1.oneCell'=true∧o.s2.oneCell'=true∧o.p1.oneCell'=true∧o.p2.oneCell'=true:=
 ⟨h.f.n.one,h.f.d.one,h.s.n.one,h.s.d.one,h.p.n.one,h.p.d.one⟩
theorem isF_red{M:Mem}{w1 w2:Value}{x d:Nat}(hd:0<d)(hx:Sm x)(hs:Sm d)(h1:IsL M u32V w1 (ofN (red x d).1))(h2:IsL M u32V w2 (ofN (red x d).2)):IsF M w1 w2 (ofN (red x d).1) (ofN (red x d).2):=
 ⟨h1,h2,okN_ofN _,okN_ofN _,(hx.le (red_p hd).le1).big,(hs.le (red_p hd).le2).big⟩
theorem add_part{a x den c D:Nat}(hD:D=den*c)(h0:0<den)(hc:0<c)(ha:a+x*c≤D)(hs:Sm D):addF (ofN (red a D).1) (ofN (red a D).2) (ofN (red x den).1) (ofN (red x den).2)=(0,red (a+x*c) D):=by
 have hDp:0<D:=by rw[hD];exact Nat.mul_pos h0 hc
 have hxc:x≤x*c:=Nat.le_mul_of_pos_right x hc
 have hdc:den≤D:=by rw[hD];exact Nat.le_mul_of_pos_right den hc
 refine add_rr hDp h0 hDp (hs.le (by omega)) hs (hs.le (by omega)) (hs.le hdc) (hs.le ha) hs ?_
 subst hD
 grind
section
variable {M:Mem}{K:AV→Hp→Mem→Prop}{o:OdV}{t:Nat×Nat×Nat}{n dn:Value}{x den c D:Nat}
theorem countF_ok(ho:OdI M o t D)(hn:IsZ M n x)(hd:IsZ M dn den)(hD:D=den*c)(h0:0<den)(hc:0<c)(ha:t.1+x*c≤D)(hs:Sm D)
  (hK:∀o' M',Mem.le M M'→OdI M' o' (t.1+x*c,t.2.1,t.2.2) D→K (.ext (.tuple #[])) [(4,70,o'.c)] M') :
  CallS Tryz.prog 65 [.own 4 0,.ext n,.ext dn] [(4,70,o.c)] M [] K:=by
 refine inlS (cs:=[]) Tryz.mixed Tryz.func65 rfl (by kernel_rfl) 200 rfl rfl ?_
 simp only[Tryz.f65]
 have oo:=ho.ones
 have p1:=hn.one
 have p2:=hd.one
 have hxc:x≤x*c:=Nat.le_mul_of_pos_right x hc
 have hmk:=makF_red h0 hn.s hd.s
 have hadd:=add_part hD h0 hc ha hs
 have hf:=A4 @OdV.c.eq_1 oo p1 p2;refine wS ?_;refine kN 51 (fmake_ok hn.l hd.l (okN_ofN _) (okN_ofN _) hn.s.big hd.s.big (fun w1 w2 M1 m1 g1 g2 _ _=>sG ?_));all_goals clear hf
 have m1:Mem.le M M1:=m1
 rw[hmk]at g1 g2
 have p3:=g1.one
 have p4:=g2.one
 have hF:=isF_red h0 hn.s hd.s g1 g2
 refine Stop.go ?_
 have hf:=A6 @OdV.c.eq_1 oo p1 p2 p3 p4;refine sF ?_;(repeat' ((first|((with_reducible refine yM ?_);refine kS 38 (fadd_ok (ho.f.le m1) hF (fun w3 w4 M2 m2 g3 g4 _ _=>Stop.mk ?_)))|((with_reducible refine isE 15 (by decide) ?_);refine dR (rP 0 4 [] ((4,[3]) :: (rP 5 6 [] []))) (rgL 14 10 []) [] ?_)|refine oB ?_|fail)<;>refine sF ?_<;>try with_reducible exact tT))<;>try clear hf
 have m2:Mem.le M1 M2:=m2
 rw[hadd]at g3 g4
 have p5:=g3.one
 have p6:=g4.one
 have hDp:0<D:=by rw[hD];exact Nat.mul_pos h0 hc
 have hq:=isF_red hDp (hs.le ha) hs g3 g4
 have hk:=hK ⟨w3,w4,o.s1,o.s2,o.p1,o.p2⟩ M2 (m1.trans m2) ⟨hq,(ho.s.le m1).le m2,(ho.p.le m1).le m2⟩
 unfold OdV.c at hk
 refine Stop.go ?_
 have hf:=A8 @OdV.c.eq_1 oo p1 p2 p3 p4 p5 p6;refine sF ?_;(repeat' ((first|((with_reducible refine isE 15 (by decide) ?_);refine dR (rP 0 4 [] ((4,[3]) :: (rP 5 6 [] []))) (rgL 14 10 []) [] ?_)|refine oB ?_|fail)<;>refine sF ?_<;>try with_reducible exact tT))<;>try clear hf
 exact hk
theorem countS_ok(ho:OdI M o t D)(hn:IsZ M n x)(hd:IsZ M dn den)(hD:D=den*c)(h0:0<den)(hc:0<c)(ha:t.2.1+x*c≤D)(hs:Sm D)
  (hK:∀o' M',Mem.le M M'→OdI M' o' (t.1,t.2.1+x*c,t.2.2) D→K (.ext (.tuple #[])) [(4,70,o'.c)] M') :
  CallS Tryz.prog 65 [.own 4 2,.ext n,.ext dn] [(4,70,o.c)] M [] K:=by
 refine inlS (cs:=[]) Tryz.mixed Tryz.func65 rfl (by kernel_rfl) 200 rfl rfl ?_
 simp only[Tryz.f65]
 have oo:=ho.ones
 have p1:=hn.one
 have p2:=hd.one
 have hxc:x≤x*c:=Nat.le_mul_of_pos_right x hc
 have hmk:=makF_red h0 hn.s hd.s
 have hadd:=add_part hD h0 hc ha hs
 have hf:=A4 @OdV.c.eq_1 oo p1 p2;refine wS ?_;refine kN 51 (fmake_ok hn.l hd.l (okN_ofN _) (okN_ofN _) hn.s.big hd.s.big (fun w1 w2 M1 m1 g1 g2 _ _=>sG ?_));all_goals clear hf
 have m1:Mem.le M M1:=m1
 rw[hmk]at g1 g2
 have p3:=g1.one
 have p4:=g2.one
 have hF:=isF_red h0 hn.s hd.s g1 g2
 refine Stop.go ?_
 have hf:=A6 @OdV.c.eq_1 oo p1 p2 p3 p4;refine sF ?_;(repeat' ((first|((with_reducible refine yM ?_);refine kS 38 (fadd_ok (ho.s.le m1) hF (fun w3 w4 M2 m2 g3 g4 _ _=>Stop.mk ?_)))|((with_reducible refine isE 15 (by decide) ?_);refine dR (rP 0 4 [] ((4,[3]) :: (rP 5 6 [] []))) (rgL 14 10 []) [] ?_)|refine oB ?_|fail)<;>refine sF ?_<;>try with_reducible exact tT))<;>try clear hf
 have m2:Mem.le M1 M2:=m2
 rw[hadd]at g3 g4
 have p5:=g3.one
 have p6:=g4.one
 have hDp:0<D:=by rw[hD];exact Nat.mul_pos h0 hc
 have hq:=isF_red hDp (hs.le ha) hs g3 g4
 have hk:=hK ⟨o.f1,o.f2,w3,w4,o.p1,o.p2⟩ M2 (m1.trans m2) ⟨(ho.f.le m1).le m2,hq,(ho.p.le m1).le m2⟩
 unfold OdV.c at hk
 refine Stop.go ?_
 have hf:=A8 @OdV.c.eq_1 oo p1 p2 p3 p4 p5 p6;refine sF ?_;(repeat' ((first|((with_reducible refine isE 15 (by decide) ?_);refine dR (rP 0 4 [] ((4,[3]) :: (rP 5 6 [] []))) (rgL 14 10 []) [] ?_)|refine oB ?_|fail)<;>refine sF ?_<;>try with_reducible exact tT))<;>try clear hf
 exact hk
theorem countP_ok(ho:OdI M o t D)(hn:IsZ M n x)(hd:IsZ M dn den)(hD:D=den*c)(h0:0<den)(hc:0<c)(ha:t.2.2+x*c≤D)(hs:Sm D)
  (hK:∀o' M',Mem.le M M'→OdI M' o' (t.1,t.2.1,t.2.2+x*c) D→K (.ext (.tuple #[])) [(4,70,o'.c)] M') :
  CallS Tryz.prog 65 [.own 4 4,.ext n,.ext dn] [(4,70,o.c)] M [] K:=by
 refine inlS (cs:=[]) Tryz.mixed Tryz.func65 rfl (by kernel_rfl) 200 rfl rfl ?_
 simp only[Tryz.f65]
 have oo:=ho.ones
 have p1:=hn.one
 have p2:=hd.one
 have hxc:x≤x*c:=Nat.le_mul_of_pos_right x hc
 have hmk:=makF_red h0 hn.s hd.s
 have hadd:=add_part hD h0 hc ha hs
 have hf:=A4 @OdV.c.eq_1 oo p1 p2;refine wS ?_;refine kN 51 (fmake_ok hn.l hd.l (okN_ofN _) (okN_ofN _) hn.s.big hd.s.big (fun w1 w2 M1 m1 g1 g2 _ _=>sG ?_));all_goals clear hf
 have m1:Mem.le M M1:=m1
 rw[hmk]at g1 g2
 have p3:=g1.one
 have p4:=g2.one
 have hF:=isF_red h0 hn.s hd.s g1 g2
 refine Stop.go ?_
 have hf:=A6 @OdV.c.eq_1 oo p1 p2 p3 p4;refine sF ?_;(repeat' ((first|((with_reducible refine yM ?_);refine kS 38 (fadd_ok (ho.p.le m1) hF (fun w3 w4 M2 m2 g3 g4 _ _=>Stop.mk ?_)))|((with_reducible refine isE 15 (by decide) ?_);refine dR (rP 0 4 [] ((4,[3]) :: (rP 5 6 [] []))) (rgL 14 10 []) [] ?_)|refine oB ?_|fail)<;>refine sF ?_<;>try with_reducible exact tT))<;>try clear hf
 have m2:Mem.le M1 M2:=m2
 rw[hadd]at g3 g4
 have p5:=g3.one
 have p6:=g4.one
 have hDp:0<D:=by rw[hD];exact Nat.mul_pos h0 hc
 have hq:=isF_red hDp (hs.le ha) hs g3 g4
 have hk:=hK ⟨o.f1,o.f2,o.s1,o.s2,w3,w4⟩ M2 (m1.trans m2) ⟨(ho.f.le m1).le m2,(ho.s.le m1).le m2,hq⟩
 unfold OdV.c at hk
 refine Stop.go ?_
 have hf:=A8 @OdV.c.eq_1 oo p1 p2 p3 p4 p5 p6;refine sF ?_;(repeat' ((first|((with_reducible refine isE 15 (by decide) ?_);refine dR (rP 0 4 [] ((4,[3]) :: (rP 5 6 [] []))) (rgL 14 10 []) [] ?_)|refine oB ?_|fail)<;>refine sF ?_<;>try with_reducible exact tT))<;>try clear hf
 exact hk
end
section
variable {K:AV→Hp→Mem→Prop}{v:SeV}{l:List Int}{P:List FR}{N:List (Nat×Nat)}{f g dl:Nat×Nat}
def eoH(o:OdV)(bs:Value):Hp:=[(4,70,o.c),(8,108,[.fn 66 [.own 7 0,.own 4 0,.own 6 0,.own 8 0]]),(6,30,[.ext bs]),(7,107,[.fn 65 []])]
theorem evX_dec{l:List Int}{s:List Nat}{f g dl:Nat×Nat}{X:List Nat}(h:decX dl X=true):∀m,evX l s f g dl m X=((lsum X-topX X)*(f.2*g.2)^m,topX X*(f.2*g.2)^m,0)
 | 0=>by rw[evX,if_pos h,Nat.pow_zero,Nat.mul_one,Nat.mul_one]
 | m+1=>by rw[evX,if_pos h]
theorem visit_dec{D B:Nat}(hB:B=f.2*g.2)(hB0:0<B)(hs:Sm D)(m n:Nat){M:Mem}{w:ScV}{X:List Nat}{dn bs:Value}{den:Nat}{o:OdV}{t:Nat×Nat×Nat}(hn:n<1000000)(hv:SeI M v l P N f g dl)(h:ScI M w l (setsL l 2) dl X)(hdx:decX dl X=true)(hdn:IsZ M dn den)(hbs:bs.oneCell'=true)(h0:0<den)(hD:D=den*B^m)(ho:OdI M o t D)(hT:t.1+t.2.1+t.2.2+lsum X*B^m≤D)
  (hK:∀o' M',Mem.le M M'→OdI M' o' (add3 t (evX l (setsL l 2) f g dl m X)) D→K (.ext (.tuple #[])) (eoH o' bs) M') :
  CallS Tryz.prog 66 [.ext (scO v w),.ext dn,.ext (.int .i64 (n:Int)),.own 7 0,.own 4 0,.own 6 0,.own 8 0] (eoH o bs) M [] K:=by
 refine inlS (cs:=[]) Tryz.mixed Tryz.func66 rfl (by kernel_rfl) 100 rfl rfl ?_
 simp only[Tryz.f66]
 have oo:=ho.ones
 have o1:=hv.ones
 have o2:=h.ones
 have p1:=hdn.one
 have p2:=hbs
 have hX0:0<X.length:=by have:=h.hl;have:=h.s0;omega
 have hXb:X.length<1000000:=by have:=h.hl;have:=h.sb;omega
 have hbl:=bestN_lt X X.length hX0
 have htop:=topX_le (X:=X)
 have hc:0<B^m:=Nat.pow_pos hB0
 have hn1:(nextX l (setsL l 2) dl v.most X n).1=0:=by unfold nextX;rw[if_pos hdx]
 have hn2:(nextX l (setsL l 2) dl v.most X n).2=45:=by unfold nextX;rw[if_pos hdx]
 rw[evX_dec hdx,←hB]at hK
 have hsp:(lsum X-topX X)*B^m+topX X*B^m=lsum X*B^m:=by rw[←Nat.add_mul];congr 1;omega
 have hf:=A8 @scO.eq_1 @eoH.eq_1 @OdV.c.eq_1 oo o1 o2 p1 p2;refine wS ?_;(first|refine yH 52 ?_|refine yG 52 ?_);refine sF ?_;refine CallS.borBox (cs:=scL v w) [.int .i64 (n:Int)] (fun U M9 m9 hU=>snext_ok n (boxS_of hU) (h.le m9) hn (fun M10 m10=>⟨fun _ _=>rfl,fun M4 m4 _ _=>sG ?_⟩));all_goals clear hf
 have m4:Mem.le M M4:=m4
 have h4:=h.le m4
 have hf:=A10 hn1 hn2 @scL_ext @eoH.eq_1 @OdV.c.eq_1 oo o1 o2 p1 p2;refine wH ?_;(first|refine yH 67 ?_|refine yG 67 ?_);refine sF ?_;refine CallS.borBox (cs:=scL v w) [] (fun U M9 m9 hU=>sbest_ok (boxS_of hU) (h4.hs.le m9) (h4.hw.le m9) h4.hl h4.sb h4.s0 (BorK.same (sG ?_)));all_goals clear hf
 have w2:=h4.hw.l.sl
 have w3:=h4.hw.l.len
 rw[h4.hw.len]at w3
 obtain ⟨v1,q1,f1⟩:=h4.hw.get hXb (k:=bestN X X.length) (by omega)
 have q1:IsZ M4 v1 (topX X):=q1
 have c4:=q1.one
 have ho4:=ho.le m4
 have hdn4:=hdn.le m4
 refine Stop.go ?_
 have hf:=A12 @scL_ext @eoH.eq_1 @OdV.c.eq_1 oo o1 o2 p1 p2 w2 w3 f1 c4;refine sF ?_;(repeat' ((first|((with_reducible first|refine yA ?_|refine yB ?_|refine yC ?_);first|refine kH 65 ?_|refine kG 65 ?_|refine kS 65 (countS_ok ho4 q1 hdn4 hD h0 hc (by omega) hs (fun oa M5 m5 g5=>Stop.mk ?_)))|((with_reducible refine isE 22 (by decide) ?_);refine dR ((0,[]) :: (rP 1 3 [0] [(4,[0,3]),(5,[0]),(6,[0]),(7,[0,3,6]),(8,[])])) (rgL 22 8 []) [] ?_)|refine oB ?_|fail)<;>refine sF ?_<;>try with_reducible exact tT))<;>try clear hf
 have m5:Mem.le M4 M5:=m5
 have o3:=g5.ones
 have f2:=lookM_le (P:=Tryz.prog) (T:=30) m5 f1.1
 refine Stop.go ?_
 have hf:=A12 @scL_ext @eoH.eq_1 @OdV.c.eq_1 o3 o1 o2 p1 p2 w2 w3 f1 (A2 f2 c4);refine sF ?_;(repeat' ((first|((with_reducible first|refine yN ?_|refine yM ?_);refine kS 68 (cSub (h4.su.le m5) (q1.le m5) htop (fun w5 M6 m6 g6 _=>Stop.mk ?_)))|((with_reducible refine isE 31 (by decide) ?_);refine dR ((0,[]) :: (rP 1 3 [0] [(4,[0,3]),(5,[0,3]),(6,[0,3,5]),(7,[0,3]),(8,[0,3]),(10,[0,3,5,8]),(9,[0]),(11,[])])) (rgL 31 11 []) [] ?_)|refine oB ?_|fail)<;>refine sF ?_<;>try with_reducible exact tT))<;>try clear hf
 have m6:Mem.le M5 M6:=m6
 have c5:=g6.one
 refine Stop.go ?_
 have hf:=A12 @scL_ext @eoH.eq_1 @OdV.c.eq_1 o3 o1 o2 p1 p2 w2 w3 c4 c5;refine sF ?_;(repeat' ((first|((with_reducible first|refine yA ?_|refine yB ?_|refine yC ?_);first|refine kH 65 ?_|refine kG 65 ?_|refine kS 65 (countF_ok (g5.le m6) g6 ((hdn4.le m5).le m6) hD h0 hc (by simp only;omega) hs (fun ob M7 m7 g7=>Stop.mk ?_)))|((with_reducible refine isE 31 (by decide) ?_);refine dR ((0,[]) :: (rP 1 3 [0] [(4,[0,3]),(5,[0,3]),(6,[0,3,5]),(7,[0,3]),(8,[0,3]),(10,[0,3,5,8]),(9,[0]),(11,[])])) (rgL 31 11 []) [] ?_)|refine oB ?_|fail)<;>refine sF ?_<;>try with_reducible exact tT))<;>try clear hf
 have m7:Mem.le M6 M7:=m7
 have o4:=g7.ones
 have hk:=hK ob M7 (m4.trans (m5.trans (m6.trans m7))) g7
 unfold eoH OdV.c at hk
 refine Stop.go ?_
 have hf:=A10 @scL_ext @eoH.eq_1 @OdV.c.eq_1 o4 o1 o2 p1 p2 c4 c5;refine sF ?_;(repeat' ((first|((with_reducible refine isE 31 (by decide) ?_);refine dR ((0,[]) :: (rP 1 3 [0] [(4,[0,3]),(5,[0,3]),(6,[0,3,5]),(7,[0,3]),(8,[0,3]),(10,[0,3,5,8]),(9,[0]),(11,[])])) (rgL 31 11 []) [] ?_)|refine oB ?_|fail)<;>refine sF ?_<;>try with_reducible exact tT))<;>try clear hf
 exact hk
theorem visit_open{D B:Nat}(hs:Sm D)(n:Nat){M:Mem}{w:ScV}{X:List Nat}{dn bs:Value}{o:OdV}{t:Nat×Nat×Nat}(hn:n<1000000)(hnm:v.most≤(n:Int))(hv:SeI M v l P N f g dl)(h:ScI M w l (setsL l 2) dl X)(hdx:¬decX dl X=true)(hdn:IsZ M dn D)(hbs:bs.oneCell'=true)(h0:0<D)(ho:OdI M o t D)(hT:t.1+t.2.1+t.2.2+lsum X≤D)
  (hK:∀o' M',Mem.le M M'→OdI M' o' (add3 t (evX l (setsL l 2) f g dl 0 X)) D→K (.ext (.tuple #[])) (eoH o' bs) M') :
  CallS Tryz.prog 66 [.ext (scO v w),.ext dn,.ext (.int .i64 (n:Int)),.own 7 0,.own 4 0,.own 6 0,.own 8 0] (eoH o bs) M [] K:=by
 refine inlS (cs:=[]) Tryz.mixed Tryz.func66 rfl (by kernel_rfl) 100 rfl rfl ?_
 simp only[Tryz.f66]
 have oo:=ho.ones
 have o1:=hv.ones
 have o2:=h.ones
 have p1:=hdn.one
 have p2:=hbs
 have hn1:(nextX l (setsL l 2) dl v.most X n).1=0:=by unfold nextX;rw[if_neg hdx,if_pos hnm]
 have hn2:(nextX l (setsL l 2) dl v.most X n).2=47:=by unfold nextX;rw[if_neg hdx,if_pos hnm]
 rw[evX,if_neg hdx]at hK
 have hf:=A8 @scO.eq_1 @eoH.eq_1 @OdV.c.eq_1 oo o1 o2 p1 p2;refine wS ?_;(first|refine yH 52 ?_|refine yG 52 ?_);refine sF ?_;refine CallS.borBox (cs:=scL v w) [.int .i64 (n:Int)] (fun U M9 m9 hU=>snext_ok n (boxS_of hU) (h.le m9) hn (fun M10 m10=>⟨fun _ _=>rfl,fun M4 m4 _ _=>sG ?_⟩));all_goals clear hf
 have m4:Mem.le M M4:=m4
 have h4:=h.le m4
 have hf:=A10 hn1 hn2 @scL_ext @eoH.eq_1 @OdV.c.eq_1 oo o1 o2 p1 p2;refine wH ?_;(first|refine yH 67 ?_|refine yG 67 ?_);refine sF ?_;refine CallS.borBox (cs:=scL v w) [] (fun U M9 m9 hU=>sbest_ok (boxS_of hU) (h4.hs.le m9) (h4.hw.le m9) h4.hl h4.sb h4.s0 (BorK.same (sG ?_)));all_goals clear hf
 have ho4:=ho.le m4
 have hdn4:=hdn.le m4
 have hf:=A8 @scL_ext @eoH.eq_1 @OdV.c.eq_1 oo o1 o2 p1 p2;refine wH ?_;(first|refine yH 65 ?_|refine yG 65 ?_);refine sF ?_;refine countP_ok (c:=1) ho4 h4.su hdn4 (Nat.mul_one D).symm h0 (by omega) (by omega) hs (fun oa M5 m5 g5=>sG ?_);all_goals clear hf
 have m5:Mem.le M4 M5:=m5
 have o3:=g5.ones
 rw[Nat.mul_one]at g5
 have hk:=hK oa M5 (m4.trans m5) g5
 unfold eoH OdV.c at hk
 refine wG (A8 @scL_ext @eoH.eq_1 @OdV.c.eq_1 o3 o1 o2 p1 p2) ?_
 exact hk
theorem visit_ok{D B:Nat}(hB:B=f.2*g.2)(hB0:0<B)(hs:Sm D)(h16:v.most≤16):∀(m n:Nat) (M:Mem) (w:ScV) (X:List Nat) (dn bs:Value) (den:Nat) (o:OdV) (t:Nat×Nat×Nat) (K:AV→Hp→Mem→Prop),(n:Int)+(m:Int)=v.most→SeI M v l P N f g dl→ScI M w l (setsL l 2) dl X→PX (setsL l 2) X (b0*1000000^n)→IsZ M dn den→IsZ M bs B→0<den→D=den*B^m→OdI M o t D→t.1+t.2.1+t.2.2+lsum X*B^m≤D→
  (∀o' M',Mem.le M M'→OdI M' o' (add3 t (evX l (setsL l 2) f g dl m X)) D→K (.ext (.tuple #[])) (eoH o' bs) M')→
  CallS Tryz.prog 66 [.ext (scO v w),.ext dn,.ext (.int .i64 (n:Int)),.own 7 0,.own 4 0,.own 6 0,.own 8 0] (eoH o bs) M [] K:=by
 intro m
 induction m with
 | zero=>
  intro n M w X dn bs den o t K hn hv h hpx hdn hbs h0 hD ho hT hK
  by_cases hdx:decX dl X=true
  ·exact visit_dec hB hB0 hs 0 n (by omega) hv h hdx hdn hbs.one h0 hD ho hT hK
  ·rw[Nat.pow_zero,Nat.mul_one]at hD hT
   subst hD
   exact visit_open (B:=B) hs n (by omega) (by omega) hv h hdx hdn hbs.one h0 ho hT hK
 | succ m ih=>
  intro n M w X dn bs den o t K hn hv h hpx hdn hbs h0 hD ho hT hK
  by_cases hdx:decX dl X=true
  ·exact visit_dec hB hB0 hs (m+1) n (by omega) hv h hdx hdn hbs.one h0 hD ho hT hK
  refine inlS (cs:=[]) Tryz.mixed Tryz.func66 rfl (by kernel_rfl) 100 rfl rfl ?_
  simp only[Tryz.f66]
  have oo:=ho.ones
  have o1:=hv.ones
  have o2:=h.ones
  have p1:=hdn.one
  have p2:=hbs.one
  obtain ⟨pp,hpp⟩:∃pp:Int,pp=((splitX l X (setsL l 2):Nat):Int):=⟨_,rfl⟩
  have hnx:nextX l (setsL l 2) dl v.most X n=(pp,0):=by unfold nextX;rw[if_neg hdx,if_neg (by omega),hpp]
  have hn1:(nextX l (setsL l 2) dl v.most X n).1=pp:=by rw[hnx]
  have hn2:(nextX l (setsL l 2) dl v.most X n).2=0:=by rw[hnx]
  obtain ⟨hset,_,_⟩:=nextX_set hv.c hnx
  rw[evX,if_neg hdx,←hpp]at hK
  have hpa:=hpx.one (l:=l) hv.fo hv.go pp true
  have hpb:=hpx.one (l:=l) hv.fo hv.go pp false
  rw[smC_succ]at hpa hpb
  have hf1:f.1≤f.2:=by have:=hv.fo.2.1;omega
  have hg1:g.1≤g.2:=by have:=hv.go.2.1;omega
  have hsum:=after_sum (l:=l) (p:=pp) (X:=X) (s:=setsL l 2) hf1 hg1 hpx.len
  have hea:=evX_all (l:=l) (s:=setsL l 2) (dl:=dl) hf1 hg1 m (afterX l pp true f g X (setsL l 2)) hpa.len
  rw[←hB]at hsum hea
  have hs17:∀q,lsum (afterX l pp q f g X (setsL l 2))≤b0*1000000^(n+1)→Sm (lsum (afterX l pp q f g X (setsL l 2))*1000000):=fun q hq=>(smC (j:=n+2) (by omega)).le (by
   rw[←smC_succ]
   exact Nat.mul_le_mul_right _ hq)
  have hDe:D=den*B*B^m:=by rw[hD,Nat.pow_succ,Nat.mul_comm (B^m),Nat.mul_assoc]
  have hBm:0<B^m:=Nat.pow_pos hB0
  have hdB:den*B≤D:=by rw[hDe];exact Nat.le_mul_of_pos_right _ hBm
  have hXm:lsum X*B^(m+1)=lsum (afterX l pp true f g X (setsL l 2))*B^m+lsum (afterX l pp false f g X (setsL l 2))*B^m:=by
   rw[←Nat.add_mul,hsum,Nat.pow_succ,Nat.mul_comm (B^m),Nat.mul_assoc]
  have wn:IntKind.i64.wrap ((n:Int)+1)=((n+1:Nat):Int):=succ_i (by omega)
  rw[hXm]at hT
  clear hXm hsum
  have hf:=A8 @scO.eq_1 @eoH.eq_1 @OdV.c.eq_1 oo o1 o2 p1 p2;refine wS ?_;(first|refine yH 52 ?_|refine yG 52 ?_);refine sF ?_;refine CallS.borBox (cs:=scL v w) [.int .i64 (n:Int)] (fun U M9 m9 hU=>snext_ok n (boxS_of hU) (h.le m9) (by omega) (fun M10 m10=>⟨fun _ _=>rfl,fun M4 m4 _ _=>sG ?_⟩));all_goals clear hf
  have m4:Mem.le M M4:=m4
  have h4:=h.le m4
  have hf:=A10 hn1 hn2 @scL_ext @eoH.eq_1 @OdV.c.eq_1 oo o1 o2 p1 p2;refine wH ?_;(first|refine yH 67 ?_|refine yG 67 ?_);refine sF ?_;refine CallS.borBox (cs:=scL v w) [] (fun U M9 m9 hU=>sbest_ok (boxS_of hU) (h4.hs.le m9) (h4.hw.le m9) h4.hl h4.sb h4.s0 (BorK.same (sG ?_)));all_goals clear hf
  have hf:=A8 @scL_ext @eoH.eq_1 @OdV.c.eq_1 oo o1 o2 p1 p2;refine wH ?_;(first|refine yN ?_|refine yM ?_);refine kS 64 (cMul (hdn.le m4) (hbs.le m4) (hs.le hdB) (fun dn' M5 m5 g5 _=>sG ?_));all_goals clear hf
  have m5:Mem.le M4 M5:=m5
  have m05:=m4.trans m5
  have p3:=g5.one
  refine Stop.go ?_
  have hf:=A10 @scL_ext @eoH.eq_1 @OdV.c.eq_1 wn oo o1 o2 p1 p2 p3;refine sF ?_;(repeat' ((first|((with_reducible first|refine yN ?_|refine yM ?_);refine kS 69 (cupdate_ok pp true (hv.le m05) (h.le m05) hset hpa.sum (hs17 true hpa.le) (fun w' M6 m6 hw'=>Stop.mk ?_)))|((with_reducible refine isE 54 (by decide) ?_);refine dR ((0,[]) :: (1,[0]) :: (2,[0,1]) :: (rP 4 3 [0,1] [(3,[0]),(7,[])])) (rgL 54 7 []) [] ?_)|refine oB ?_|fail)<;>refine sF ?_<;>try with_reducible exact tT))<;>try clear hf
  have m6:Mem.le M5 M6:=m6
  have m06:=m05.trans m6
  have o3:=hw'.ones
  refine Stop.go ?_
  have hf:=A11 @scL_ext @eoH.eq_1 @OdV.c.eq_1 wn oo o1 o2 o3 p1 p2 p3;refine sF ?_;(repeat' ((first|((with_reducible first|refine yA ?_|refine yB ?_|refine yC ?_);first|refine kH 66 ?_|refine kG 66 ?_|refine kS 66 (ih (n+1) M6 w' _ dn' bs (den*B) o t _ (by omega) (hv.le m06) hw' hpa (g5.le m6) (hbs.le m06) (Nat.mul_pos h0 hB0) hDe (ho.le m06) (by omega) (fun oa M7 m7 g7=>Stop.mk ?_)))|((with_reducible refine isE 54 (by decide) ?_);refine dR ((0,[]) :: (1,[0]) :: (2,[0,1]) :: (rP 4 3 [0,1] [(3,[0]),(7,[])])) (rgL 54 7 []) [] ?_)|refine oB ?_|fail)<;>refine sF ?_<;>try with_reducible exact tT))<;>try clear hf
  have m7:Mem.le M6 M7:=m7
  have m07:=m06.trans m7
  have o4:=g7.ones
  refine Stop.go ?_
  have hf:=A11 @scL_ext @eoH.eq_1 @OdV.c.eq_1 wn o4 o1 o2 o3 p1 p2 p3;refine sF ?_;(repeat' ((first|((with_reducible first|refine yN ?_|refine yM ?_);refine kS 69 (cupdate_ok pp false (hv.le m07) (h.le m07) hset hpb.sum (hs17 false hpb.le) (fun w'' M8 m8 hw''=>Stop.mk ?_)))|((with_reducible refine isE 62 (by decide) ?_);refine dR ((0,[]) :: (1,[0]) :: (2,[0,1]) :: (rP 4 3 [0,1] [(3,[0]),(7,[])])) (rgL 62 7 []) [] ?_)|refine oB ?_|fail)<;>refine sF ?_<;>try with_reducible exact tT))<;>try clear hf
  have m8:Mem.le M7 M8:=m8
  have m08:=m07.trans m8
  have o5:=hw''.ones
  refine Stop.go ?_
  have hf:=A12 @scL_ext @eoH.eq_1 @OdV.c.eq_1 wn o4 o1 o2 o3 o5 p1 p2 p3;refine sF ?_;(repeat' ((first|((with_reducible first|refine yA ?_|refine yB ?_|refine yC ?_);first|refine kH 66 ?_|refine kG 66 ?_|refine kS 66 (ih (n+1) M8 w'' _ dn' bs (den*B) oa _ _ (by omega) (hv.le m08) hw'' hpb (g5.le (m6.trans (m7.trans m8))) (hbs.le m08) (Nat.mul_pos h0 hB0) hDe (g7.le m8) (by unfold add3;simp only;omega) (fun ob M9 m9 g9=>Stop.mk ?_)))|((with_reducible refine isE 62 (by decide) ?_);refine dR ((0,[]) :: (1,[0]) :: (2,[0,1]) :: (rP 4 3 [0,1] [(3,[0]),(7,[])])) (rgL 62 7 []) [] ?_)|refine oB ?_|fail)<;>refine sF ?_<;>try with_reducible exact tT))<;>try clear hf
  have m9:Mem.le M8 M9:=m9
  have o6:=g9.ones
  have hk:=hK ob M9 (m08.trans m9) (by rw[show add3 t (add3 (evX l (setsL l 2) f g dl m (afterX l pp true f g X (setsL l 2))) (evX l (setsL l 2) f g dl m (afterX l pp false f g X (setsL l 2))))=add3 (add3 t (evX l (setsL l 2) f g dl m (afterX l pp true f g X (setsL l 2)))) (evX l (setsL l 2) f g dl m (afterX l pp false f g X (setsL l 2))) from by unfold add3;simp only[Nat.add_assoc]];exact g9)
  unfold eoH OdV.c at hk
  refine wG (A9 @scL_ext @eoH.eq_1 @OdV.c.eq_1 o6 o1 o2 p1 p2 p3) ?_
  exact hk
end
section
variable {M:Mem}{K:AV→Hp→Mem→Prop}{v w:SeV}{l u:List Int}{P D:List FR}{fl dt d:LP}{b:List Bool}
def ssmA(M:Mem)(v w:SeV)(i:Nat):St:={env:=[(5,.ext (.int .i64 (i:Int))),(3,.own 3 0),(2,.own 2 0)],hp:=[(3,37,w.c),(2,37,v.c)],M:=M,kb:=0,fx:=[]}
def ssmB(M:Mem)(v w:SeV)(i:Nat):St:={env:=[(6,.ext (.int .i64 (i:Int))),(3,.own 3 0),(2,.own 2 0)],hp:=[(3,37,w.c),(2,37,v.c)],M:=M,kb:=0,fx:=[]}
theorem same36_ok(h:SeR M v l P fl dt d u b)(g:SeR M w l D fl dt d u b)(hD:D.map prV=P.map prV)(hm:w.most=v.most)(hK:K (.ext (.bool true)) [] M) :
  CallS Tryz.prog 16 [.ext v.v,.ext w.v] [] M [] K:=by
 have gl:D.length=P.length:=by have:=congrArg List.length hD;simpa using this
 refine inlS (cs:=[]) Tryz.mixed Tryz.func16 rfl (by kernel_rfl) 0 rfl rfl ?_
 simp only[Tryz.f16]
 dsimp only [List.append_eq,List.cons_append,List.nil_append]
 have oo:=h.ones
 have o2:=g.ones
 have n1:=h.p.len
 have s1:=h.p.sl
 have n2:=g.p.len
 have s2:=g.p.sl
 have n3:=h.f.len
 have s3:=h.f.sl
 have n4:=g.f.len
 have s4:=g.f.sl
 rw[gl]at n2
 have hpb:=h.pb
 have hfb:=h.fb
 have hlb:=h.lb
 have hqb:=h.qb
 have e1:decide (l=l)=true:=by simp
 have e2:decide (u=u)=true:=by simp
 have e3:decide ((P.length:Int)=(P.length:Int))=true:=by simp
 have e4:decide ((b.length:Int)=(b.length:Int))=true:=by simp
 have e5:decide (v.most=w.most)=true:=by rw[hm];simp
 have yb:=h.y.bn
 have yd:=h.y.bd
 have xb:=h.x.bn
 have xd:=h.x.bd
 have db:=h.d.bn
 have dd1:=h.d.bd
 have hf:=A12 @SeV.v.eq_1 oo o2 n1 s1 n2 s2 n3 s3 n4 s4 (A5 e1 e2 e3 e4 e5);refine sF ?_;(repeat' ((first|((with_reducible first|refine yN ?_|refine yM ?_);first|refine kS 48 (sameInts_ok v.ur w.ur l l h.r g.r (by omega) (by omega) ?_)|refine kS 48 (sameInts_ok v.uq w.uq u u h.q g.q (by omega) (by omega) ?_)|refine kS 30 (sameFrac_ok h.y.n h.y.d g.y.n g.y.d (by omega) (by omega) ?_)|refine kS 30 (sameFrac_ok h.x.n h.x.d g.x.n g.x.d (by omega) (by omega) ?_)|refine kS 30 (sameFrac_ok h.d.n h.d.d g.d.n g.d.d (by omega) (by omega) ?_))|refine oB ?_|fail)<;>refine sF ?_<;>try with_reducible exact tT))<;>try clear hf
 refine ⟨fun m z=>∃i,m=P.length-i∧i≤P.length∧z=ssmA M v w i,
  ⟨P.length,ssmA M v w 0,le_sub ⟨rfl,rfl,rfl,trivial⟩ ⟨rfl,rfl,trivial⟩ rfl rfl rfl (keepLt0 _),⟨0,by omega,by omega,rfl⟩⟩,?_⟩
 rintro m z ⟨i,rfl,hi,rfl⟩
 by_cases hlt:i<P.length
 case neg=>
  obtain rfl:i=P.length:=by omega
  have d1:decide ((P.length:Int)<(P.length:Int))=false:=by simp
  refine wT (A12 @ssmA.eq_1 @SeV.c.eq_1 d1 oo o2 n1 s1 n2 s2 n3 s3 (A2 n4 s4)) ?_
  refine ⟨fun m z=>∃i,m=b.length-i∧i≤b.length∧z=ssmB M v w i,
   ⟨b.length,ssmB M v w 0,le_sub ⟨rfl,rfl,rfl,trivial⟩ ⟨rfl,rfl,trivial⟩ rfl rfl rfl (keepLt0 _),⟨0,by omega,by omega,rfl⟩⟩,?_⟩
  rintro m z ⟨j,rfl,hj,rfl⟩
  by_cases hjt:j<b.length
  case neg=>
   obtain rfl:j=b.length:=by omega
   have d2:decide ((b.length:Int)<(b.length:Int))=false:=by simp
   refine wT (A12 @ssmB.eq_1 @SeV.c.eq_1 d2 oo o2 n1 s1 n2 s2 n3 s3 (A2 n4 s4)) ?_
   exact hK
  have d2:decide ((j:Int)<(b.length:Int))=true:=by rw[decide_eq_true_eq];omega
  have wj:IntKind.i64.wrap ((j:Int)+1)=((j+1:Nat):Int):=succ_i (by omega)
  have f1:=h.f.idx (P:=Tryz.prog) (T:=4) tk4 tz4 (by omega) hjt
  have f2:=g.f.idx (P:=Tryz.prog) (T:=4) tk4 tz4 (by omega) hjt
  generalize b[j]=bj at *
  have hbe:(bj==bj)=true:=by cases bj<;>rfl
  have hf:=A12 @ssmB.eq_1 @SeV.c.eq_1 d2 wj hbe f1 f2 oo o2 n1 s1 (A6 n2 s2 n3 s3 n4 s4);refine sF ?_;(repeat' ((first|((with_reducible refine isE 102 (by decide) ?_);refine dR [(0,[]),(1,[]),(2,[1]),(3,[]),(4,[]),(5,[1,4]),(6,[1,4]),(7,[1,4,6]),(8,[1,4]),(9,[1,4]),(10,[])] (rgL 102 10 []) [] ?_)|refine oB ?_|fail)<;>refine sF ?_<;>try with_reducible exact tT))<;>try clear hf
  exact ⟨b.length-(j+1),ssmB M v w (j+1),by omega,le_sub ⟨rfl,rfl,rfl,trivial⟩ ⟨rfl,rfl,trivial⟩ rfl rfl rfl (keepLt0 _),j+1,rfl,by omega,rfl⟩
 have d1:decide ((i:Int)<(P.length:Int))=true:=by rw[decide_eq_true_eq];omega
 have q1:(0:Int)≤(i:Int):=by omega
 have q2:(i:Int)<(P.length:Int):=by omega
 have wi:IntKind.i64.wrap ((i:Int)+1)=((i+1:Nat):Int):=succ_i (by omega)
 have k2:i<D.length:=by omega
 have nn1:=h.p.nn hlt
 have nn2:=g.p.nn k2
 have a1:=h.p.at (P:=Tryz.prog) (T:=32) (fun _=>rfl) tk32 tz32 hlt
 have a2:=g.p.at (P:=Tryz.prog) (T:=32) (fun _=>rfl) tk32 tz32 k2
 have f1:=h.o _ (List.getElem_mem hlt)
 have f2:=g.o _ (List.getElem_mem k2)
 have e:prV D[i]=prV P[i]:=by
  have:=congrArg (fun X=>X[i]?) hD
  simp only[List.getElem?_map,List.getElem?_eq_getElem k2,List.getElem?_eq_getElem hlt,Option.map_some]at this
  exact Option.some.inj this
 generalize P[i]=X at *
 generalize D[i]=Y at *
 obtain ⟨x1,x2,y1,y2⟩:=X
 obtain ⟨z1,z2,w1,w2⟩:=Y
 unfold prV at e
 simp only[Prod.mk.injEq]at e
 obtain ⟨rfl,rfl⟩:=e
 have a1:lookM Tryz.prog 32 M (elemP v.up 2 i)=some (.agg #[x1,x2]):=a1
 have a2:lookM Tryz.prog 32 M (elemP w.up 2 i)=some (.agg #[z1,z2]):=a2
 have f1:IsF M x1 x2 w1 w2:=f1
 have f2:IsF M z1 z2 w1 w2:=f2
 have p1:=f1.n.one
 have p2:=f1.d.one
 have p3:=f2.n.one
 have p4:=f2.d.one
 have bn:=f1.bn
 have bd:=f1.bd
 have hf:=A12 @ssmA.eq_1 @SeV.c.eq_1 d1 q1 q2 wi nn1 nn2 a1 a2 oo (A9 o2 n1 s1 n2 s2 p1 p2 p3 p4);refine sF ?_;(repeat' ((first|((with_reducible refine yM ?_);refine kS 30 (sameFrac_ok f1.n f1.d f2.n f2.d (by omega) (by omega) ?_))|((with_reducible refine isE 83 (by decide) ?_);refine dR [(0,[]),(1,[]),(2,[1]),(3,[]),(4,[]),(5,[1,4]),(6,[1,4]),(7,[1,4,6]),(8,[1,4]),(9,[1,4]),(10,[]),(11,[])] (rgL 83 10 []) [] ?_)|refine oB ?_|fail)<;>refine sF ?_<;>try with_reducible exact tT))<;>try clear hf
 exact ⟨P.length-(i+1),ssmA M v w (i+1),by omega,le_sub ⟨rfl,rfl,rfl,trivial⟩ ⟨rfl,rfl,trivial⟩ rfl rfl rfl (keepLt0 _),i+1,rfl,by omega,rfl⟩
def zSe:SeV:=⟨.slice none 0 0,.slice none 0 0,.slice none 0 0,.slice none 0 0,.slice none 0 0,.slice none 0 0,.slice none 0 0,.slice none 0 0,0,.slice none 0 0,.slice none 0 0⟩
theorem isF_zero36(M:Mem):IsF M (.slice none 0 0) (.slice none 0 0) [] []:=⟨isL_nil _ _ _,isL_nil _ _ _,by rw[←ofN_zero];exact okN_ofN 0,by rw[←ofN_zero];exact okN_ofN 0,by decide,by decide⟩
theorem zSe_R(M:Mem):SeR M zSe [] [] ([],[]) ([],[]) ([],[]) [] []:=
 ⟨isL_nil _ _ _,slM_empty M 2 none 0,(fun x hx=>by cases hx),isF_zero36 M,isF_zero36 M,isF_zero36 M,by decide,by decide,isL_nil _ _ _,isL_nil _ _ _,by decide,by decide⟩
theorem same36_zero(hK:K (.ext (.bool true)) [] M):CallS Tryz.prog 16 [.ext se0V,.ext se0V] [] M [] K:=
 same36_ok (v:=zSe) (w:=zSe) (zSe_R M) (zSe_R M) rfl rfl hK
end
theorem SeI.chk{M:Mem}{v:SeV}{l:List Int}{P:List FR}{N:List (Nat×Nat)}{f g dl:Nat×Nat}(h:SeI M v l P N f g dl)(hfg:f.1*g.2<g.1*f.2){most:Int}(h1:1≤most)(h16:most≤16):chkC l P (opN f) (opN g) (opN dl) most=0:=by
 have hX:=newB_X h.c h.nl h.n h.no
 have hn:noiF (opN f).1 (opN f).2 (opN g).1 (opN g).2=true:=noiF_N h.fo h.go hfg
 have hi:innF (opN dl).1 (opN dl).2=true:=h.do_.innF
 unfold chkC
 rw[hX,hn,hi]
 simp only[if_true]
 rw[if_neg (by omega)]
theorem SeI.plen{M:Mem}{v:SeV}{l:List Int}{P:List FR}{N:List (Nat×Nat)}{f g dl:Nat×Nat}(h:SeI M v l P N f g dl):P.length=l.length:=by
 have h1:=congrArg List.length h.n
 have h2:=h.nl
 simp only[List.length_map]at h1
 omega
theorem SeI.rr{M:Mem}{v:SeV}{l:List Int}{P:List FR}{N:List (Nat×Nat)}{f g dl:Nat×Nat}(h:SeI M v l P N f g dl)(hq:v.uq=.slice none 0 0)(hf:v.uf=.slice none 0 0):SeR M v l P (opN f) (opN g) (opN dl) [] []:=by
 have h1:=h.plen
 have h8:=(chk_len h.c).2
 exact ⟨h.r,h.p,h.o,h.y,h.x,h.d,by omega,by omega,by rw[hq];exact isL_nil _ _ _,by rw[hf];exact isL_nil _ _ _,by simp,by simp⟩
theorem SeR.ii{M:Mem}{v w:SeV}{l u:List Int}{P D:List FR}{N:List (Nat×Nat)}{f g dl:Nat×Nat}{b:List Bool}(h:SeR M w l D (opN f) (opN g) (opN dl) u b){M0:Mem}(hv:SeI M0 v l P N f g dl)(hD:D.map prV=P.map prV):SeI M w l D N f g dl:=
 ⟨h.r,hv.c,h.p,h.o,hD.trans hv.n,hv.no,hv.nl,h.y,h.x,h.d,hv.fo,hv.go,hv.do_,h.q.one,h.f.one⟩
section
variable {M:Mem}{K:AV→Hp→Mem→Prop}
theorem begun38_ok(u:Value)(l:List Int)(m k:Nat)(hm0:0<m)(hm:m≤4)(hk0:0<k)(hk:k≤8)(hu:IsL M intV64 u l)
  (hK:∀(w:SeV) L D N f g dl (p:Nat) M',p≤100→Mem.le M M'→SeI M' w L D N f g dl→SeR M' w L D (opN f) (opN g) (opN dl) [] []→chkC L D (opN f) (opN g) (opN dl) w.most=0→L.length≤m→f.1*g.2<g.1*f.2→1≤w.most→w.most≤k→K (.ext (.tuple #[w.v,.bool true])) [(38,25,[.ext u,.ext (.int .i64 (p:Int))])] M') :
  CallS Tryz.prog 19 [.own 38 0,.ext (.int .i64 (m:Int)),.ext (.int .i64 (k:Int))] [(38,25,[.ext u,.ext (.int .i64 (0:Int))])] M [] K:=by
 refine inlS (cs:=[]) Tryz.mixed Tryz.func19 rfl (by kernel_rfl) 100 rfl rfl ?_
 simp only[Tryz.f19]
 have hf:=hu.one;refine wS ?_;refine yH 10 ?_;refine sF ?_;refine drawn38_ok u l m k hm0 hm hk0 hk hu (fun v L P N f g dl p M1 hp m1 hv hL hq hfn hfg hm1 hm2=>sG ?_);all_goals clear hf
 have m1:Mem.le M M1:=m1
 have oo:=hv.ones
 have hR:=hv.rr hq hfn
 have hck:=hv.chk hfg hm1 (by omega)
 have uo:=hu.one
 have hf:=A3 @SeV.v.eq_1 uo oo;refine wH ?_;refine kN 14 (cnew_ok hR hq hfn (fun hne=>absurd hck hne) (fun _ w D M2 m2 hfr hD hwm hRw=>sG ?_));all_goals clear hf
 have m2:Mem.le M1 M2:=m2
 have o2:=hRw.ones
 have hf:=A4 @SeV.v.eq_1 uo oo o2;refine wH ?_;refine kN 15 (rNew_ok (hR.le m2) (fun hne=>absurd hck hne) (fun _ M3 m3=>sG ?_));all_goals clear hf
 have m3:Mem.le M2 M3:=m3
 have hR3:=hR.le (m2.trans m3)
 have hRw3:=hRw.le m3
 have hI3:=hRw3.ii hv hD
 have hk9:=hK w L D N f g dl p M3 hp (m1.trans (m2.trans m3)) hI3 hRw3 (by rw[hwm];exact (chkC_cong hD).trans hck) hL hfg (by omega) (by omega)
 have hve:v.fresh=v.v:=by unfold SeV.fresh SeV.v;rw[hq,hfn]
 unfold SeV.v at hk9
 refine Stop.go ?_
 have hf:=A5 hve @SeV.v.eq_1 uo oo o2;refine sF ?_;(repeat' ((first|((with_reducible refine yM ?_);refine kS 16 (same36_ok hRw3 hR3 hD.symm hwm.symm ?_))|((with_reducible refine isE 45 (by decide) ?_);refine dR ((0,[]) :: (rP 1 8 [0] [(9,[0,8]),(10,[0]),(11,[0]),(12,[]),(13,[])])) (rgL 45 12 []) [] ?_)|refine oB ?_|fail)<;>refine sF ?_<;>try with_reducible exact tT))<;>try clear hf
 exact hk9
end
theorem FrzF.rng36{K:AV→Hp→Mem→Prop}{H H2:Hp}{M':Mem}{k n:Nat}{T:TypeId}(cs:List Value)(h1:lkH H k=none)(h2:cs.length=n)(h3:hasK k (mentH H2)=false)(h4:lkH H2 k=none)(h:∀u M'',Mem.le M' M''→SlM M'' 1 u n cs→FreshS M' u→K (.ext (.agg #[u])) H2 M''):FrzF K H (.ag false [.slo k 0 n 1]) ((k,T,cs.map .ext) :: H2) M':=
 .inr ⟨some false,[],[],k,n,1,T,cs,H2,rfl,rfl,h4,h1,by omega,by simpa [mentL] using h3,h⟩
theorem okH2:OkN (1,2):=⟨by decide,by decide,by decide,by decide⟩
theorem okT1:OkN (1,10):=⟨by decide,by decide,by decide,by decide⟩
theorem okT9:OkN (9,10):=⟨by decide,by decide,by decide,by decide⟩
section
variable {M:Mem}{K:AV→Hp→Mem→Prop}
theorem plain36_frz(n:Nat)(hn:n≤100)(hK:∀u M',Mem.le M M'→IsL M' intV64 u (List.replicate n (-1))→FreshS M u→K (.ext (.agg #[u])) [] M'):CallS Tryz.prog 20 [.ext (.int .i64 (n:Int))] [] M [] K:=by
 refine CallS.frzF (plain36_ok n hn ?_)
 refine FrzF.rng36 ((List.replicate n (-1)).map intV64) rfl (by simp) rfl rfl (fun u M'' hM hs hf=>hK u M'' hM ?_ hf)
 unfold IsL
 rw[List.length_replicate];exact hs
theorem sml36_ok(n d:Nat)(hn:0<n)(hd:0<d)(hd2:d≤1000)(hn2:n≤1000)(hg:Nat.gcd n d=1)(hK:∀w1 w2 M',Mem.le M M'→IsF M' w1 w2 (ofN n) (ofN d)→K (.ext (.agg #[w1,w2])) [] M'):CallS Tryz.prog 12 [.ext (.int .i64 (n:Int)),.ext (.int .i64 (d:Int))] [] M [] K:=
 sml_ok n d (by omega) (by omega) (by omega) fun w1 w2 M' a1 a2 a3 _ _=>hK w1 w2 M' a1 (by
  rw[hg,Nat.div_one]at a2 a3
  exact isF_ofN a2 a3 ⟨(sm1000 (by omega)).len,(sm1000 (by omega)).len⟩)
def known36X:List Nat:=[1,1,1]
theorem known36_start:startX [-1,-1] [(1,2),(1,2)]=known36X:=by decide +kernel
theorem known36_next:nextX [-1,-1] (setsL [-1,-1] 2) (1,10) 3 known36X 0=(1,0):=by decide +kernel
theorem known36_red:qX known36X=[(1,3),(1,3),(1,3)]:=by decide +kernel
theorem known36_ok(hK:∀M',Mem.le M M'→K (.ext (.bool true)) [] M'):CallS Tryz.prog 18 [] [] M [] K:=by
 refine inlS (cs:=[]) Tryz.mixed Tryz.func18 rfl (by kernel_rfl) 0 rfl rfl ?_
 simp only[Tryz.f18]
 refine sU ?_;(repeat' ((first|((with_reducible first|refine yN ?_|refine yM ?_);refine kS 12 (sml36_ok 1 2 (by decide) (by decide) (by decide) (by decide) (by decide) (fun v1 v2 M1 m1 f1=>Stop.mk ?_)))|refine oB ?_|fail)<;>refine sU ?_<;>try with_reducible exact tT))
 have m1:Mem.le M M1:=m1
 have p1:=f1.n.one
 have p2:=f1.d.one
 refine Stop.go ?_
 have hf:=A2 p1 p2;refine sF ?_;(repeat' ((first|((with_reducible refine yM ?_);refine kS 20 (plain36_frz 2 (by decide) (fun u M2 m2 a2 _=>Stop.mk ?_)))|((with_reducible refine isE 10 (by decide) ?_);refine dR ((1,[]) :: (2,[1]) :: (3,[]) :: (12,[1,2]) :: (0,[1,2]) :: (rP 4 4 [1,2] (rP 8 4 [] [(13,[]),(14,[])]))) (2 :: (rgL 9 12 [])) [] ?_)|refine oB ?_|fail)<;>refine sF ?_<;>try with_reducible exact tT))<;>try clear hf
 have m2:Mem.le M1 M2:=m2
 have a2:IsL M2 intV64 u [-1,-1]:=a2
 have p3:=a2.one
 have f2:=f1.le m2
 have hok:okFL M2 [⟨v1,v2,ofN 1,ofN 2⟩,⟨v1,v2,ofN 1,ofN 2⟩]:=fun x hx=>by
  rcases List.mem_cons.1 hx with h|hx
  ·rw[h];exact f2
  ·rw[List.mem_singleton.1 hx];exact f2
 refine Stop.go ?_
 have hf:=A3 p1 p2 p3;refine sF ?_;(repeat' ((first|((with_reducible first|refine yN ?_|refine yM ?_);refine kS 12 (sml36_ok 1 10 (by decide) (by decide) (by decide) (by decide) (by decide) (fun y1 y2 M3 m3 f3=>Stop.mk ?_)))|((with_reducible refine isE 10 (by decide) ?_);refine dR ((1,[]) :: (2,[1]) :: (3,[]) :: (12,[1,2]) :: (0,[1,2]) :: (rP 4 4 [1,2] (rP 8 4 [] [(13,[]),(14,[])]))) (2 :: (rgL 9 12 [])) [] ?_)|refine oB ?_|fail)<;>refine sF ?_<;>try with_reducible exact tT))<;>try clear hf
 have m3:Mem.le M2 M3:=m3
 have p4:=f3.n.one
 have p5:=f3.d.one
 refine Stop.go ?_
 have hf:=A5 p1 p2 p3 p4 p5;refine sF ?_;(repeat' ((first|((with_reducible first|refine yN ?_|refine yM ?_);refine kS 12 (sml36_ok 9 10 (by decide) (by decide) (by decide) (by decide) (by decide) (fun x1 x2 M4 m4 f4=>Stop.mk ?_)))|((with_reducible refine isE 10 (by decide) ?_);refine dR ((1,[]) :: (2,[1]) :: (3,[]) :: (12,[1,2]) :: (0,[1,2]) :: (rP 4 4 [1,2] (rP 8 4 [] [(13,[]),(14,[])]))) (2 :: (rgL 9 12 [])) [] ?_)|refine oB ?_|fail)<;>refine sF ?_<;>try with_reducible exact tT))<;>try clear hf
 have m4:Mem.le M3 M4:=m4
 have p6:=f4.n.one
 have p7:=f4.d.one
 refine Stop.go ?_
 have hf:=A7 p1 p2 p3 p4 p5 p6 p7;refine sF ?_;(repeat' ((first|((with_reducible first|refine yN ?_|refine yM ?_);refine kS 12 (sml36_ok 1 10 (by decide) (by decide) (by decide) (by decide) (by decide) (fun d1 d2 M5 m5 f5=>Stop.mk ?_)))|((with_reducible refine isE 10 (by decide) ?_);refine dR ((1,[]) :: (2,[1]) :: (3,[]) :: (12,[1,2]) :: (0,[1,2]) :: (rP 4 4 [1,2] (rP 8 4 [] [(13,[]),(14,[])]))) (2 :: (rgL 9 12 [])) [] ?_)|refine oB ?_|fail)<;>refine sF ?_<;>try with_reducible exact tT))<;>try clear hf
 have m5:Mem.le M4 M5:=m5
 have p8:=f5.n.one
 have p9:=f5.d.one
 have m25:=m3.trans (m4.trans m5)
 have hR:SeR M5 ⟨u,.slice none 0 0,y1,y2,x1,x2,d1,d2,3,.slice none 0 0,.slice none 0 0⟩ [-1,-1] [] (opN (1,10)) (opN (9,10)) (opN (1,10)) [] []:=
  ⟨a2.le m25,slM_empty M5 2 none 0,(fun x hx=>by cases hx),f3.le (m4.trans m5),f4.le m5,f5,by decide,by decide,isL_nil _ _ _,isL_nil _ _ _,by decide,by decide⟩
 have hcl:chkL [-1,-1]=true:=by decide
 have hno:∀q∈[((1:Nat),(2:Nat)),(1,2)],OkN q:=fun q hq=>by
  rcases List.mem_cons.1 hq with h|hq
  ·rw[h];exact okH2
  ·rw[List.mem_singleton.1 hq];exact okH2
 have hck:chkC [-1,-1] [⟨v1,v2,ofN 1,ofN 2⟩,⟨v1,v2,ofN 1,ofN 2⟩] (opN (1,10)) (opN (9,10)) (opN (1,10)) 3=0:=by
  have hX:=newB_X (P:=[⟨v1,v2,ofN 1,ofN 2⟩,⟨v1,v2,ofN 1,ofN 2⟩]) (N:=[(1,2),(1,2)]) hcl rfl rfl hno
  have hn:noiF (opN (1,10)).1 (opN (1,10)).2 (opN (9,10)).1 (opN (9,10)).2=true:=noiF_N okT1 okT9 (by decide)
  have hi:innF (opN (1,10)).1 (opN (1,10)).2=true:=okT1.innF
  unfold chkC
  rw[hX,hn,hi]
  rfl
 have e1:frC [(⟨v1,v2,ofN 1,ofN 2⟩:FR),⟨v1,v2,ofN 1,ofN 2⟩]=[.ext v1,.ext v2,.ext v1,.ext v2]:=rfl
 refine Stop.go ?_
 have hf:=A9 p1 p2 p3 p4 p5 p6 p7 p8 p9;refine sF ?_;(repeat' ((first|((with_reducible first|refine yB ?_|refine yC ?_);first|refine kG 14 ?_|refine kS 14 (cnew_bor (v:=⟨u,.slice none 0 0,y1,y2,x1,x2,d1,d2,3,.slice none 0 0,.slice none 0 0⟩) (P:=[⟨v1,v2,ofN 1,ofN 2⟩,⟨v1,v2,ofN 1,ofN 2⟩]) 13 2 _ rfl hR (hok.le m25) (show 2<1000000 by decide) hck (fun w D M6 m6 hD hwm hRw=>Stop.mk ?_)))|((with_reducible refine isE 10 (by decide) ?_);refine dR ((1,[]) :: (2,[1]) :: (3,[]) :: (12,[1,2]) :: (0,[1,2]) :: (rP 4 4 [1,2] (rP 8 4 [] [(13,[]),(14,[])]))) (2 :: (rgL 9 12 [])) [] ?_)|refine oB ?_|fail)<;>refine sF ?_<;>try with_reducible exact tT))<;>try clear hf
 have m6:Mem.le M5 M6:=m6
 have oo:=hRw.ones
 have hwm:w.most=3:=hwm
 have hDN:D.map numF=[(1,2),(1,2)]:=map_num (hD.trans rfl)
 have hck2:chkC [-1,-1] D (opN (1,10)) (opN (9,10)) (opN (1,10)) w.most=0:=by rw[hwm];exact (chkC_cong hD).trans hck
 have hpl:playS [-1,-1] D (opN (1,10)) (opN (9,10)) (opN (1,10)) w.most [] []=some known36X:=by
  unfold playS
  rw[if_pos ⟨hck2,rfl,by rw[hwm];decide⟩,hDN,known36_start]
  rfl
 have hnx:nextX [-1,-1] (setsL [-1,-1] 2) (numL (opN (1,10))) w.most known36X 0=(1,0):=by
  rw[numL_opN,hwm];exact known36_next
 have hn1:=congrArg Prod.fst hnx
 have hn2:=congrArg Prod.snd hnx
 have hf:=A5 e1 @SeV.v.eq_1 p1 p2 oo;refine wH ?_;refine kN 22 (cNext_ok hRw (fun hp=>absurd (hpl.symm.trans hp) (by simp)) (fun X M7 hp m7=>sG ?_));all_goals clear hf
 have m7:Mem.le M6 M7:=m7
 cases hpl.symm.trans hp
 have hf:=A5 hn1 hn2 p1 p2 oo;refine wH ?_;refine kN 21 (cBelief_ok (hRw.le m7) (fun hp=>absurd (hpl.symm.trans hp) (by simp)) (fun X wr ws ww M8 hp m8 hB _ _=>sG ?_));all_goals clear hf
 have m8:Mem.le M7 M8:=m8
 cases hpl.symm.trans hp
 have c1:=hB.l.one
 have c2:=hB.s.one
 have c3:=hB.q.one
 obtain ⟨L,l1,l2,l3⟩:=hB.q
 rw[known36_red]at l3
 have hlL:L.length=3:=by have:=congrArg List.length l3;simpa using this
 have n7:=l1.len
 have s7:=l1.sl
 rw[hlL]at n7
 have k0:2<L.length:=by omega
 have nn:=l1.nn k0
 have at0:=l1.at (P:=Tryz.prog) (T:=32) (fun _=>rfl) tk32 tz32 k0
 have fz:=l2 _ (List.getElem_mem k0)
 have ez:prV L[2]=(ofN 1,ofN 3):=by
  have:=congrArg (fun t=>t[2]?) l3
  simp only[List.getElem?_map,List.getElem?_eq_getElem k0,Option.map_some]at this
  exact Option.some.inj this
 generalize L[2]=X at *
 obtain ⟨z1,z2,w1,w2⟩:=X
 unfold prV at ez
 simp only[Prod.mk.injEq]at ez
 obtain ⟨rfl,rfl⟩:=ez
 have at0:lookM Tryz.prog 32 M8 (elemP ww 2 2)=some (.agg #[z1,z2]):=at0
 have fz:IsF M8 z1 z2 (ofN 1) (ofN 3):=fz
 have r1:=fz.n.one
 have r2:=fz.d.one
 have ln1:(ofN 1).length<1000000000:=by have:=ofN1_len;omega
 have ln3:(ofN 3).length<1000000000:=by have:=(sm1000 (n:=3) (by omega)).len;omega
 have m08:Mem.le M M8:=m1.trans (m2.trans (m25.trans (m6.trans (m7.trans m8))))
 refine Stop.go ?_
 have hf:=A12 p1 p2 oo c1 c2 c3 n7 s7 nn at0 r1 r2;refine sF ?_;(repeat' ((first|((with_reducible first|refine yN ?_|refine yM ?_);refine kS 12 (sml36_ok 1 3 (by decide) (by decide) (by decide) (by decide) (by decide) (fun b1 b2 M9 m9 f9=>Stop.mk ?_)))|((with_reducible refine isE 31 (by decide) ?_);refine dR (rP 0 25 [] ((25,[22,24]) :: (rP 26 3 [] []))) (rgL 52 5 []) [] ?_)|refine oB ?_|fail)<;>refine sF ?_<;>try with_reducible exact tT))<;>try clear hf
 have m9:Mem.le M8 M9:=m9
 have r3:=f9.n.one
 have r4:=f9.d.one
 have hk:=hK M9 (m08.trans m9)
 have fz9:=fz.le m9
 refine Stop.go ?_
 have hf:=A12 p1 p2 oo c1 c2 c3 n7 s7 r1 r2 r3 r4;refine sF ?_;(repeat' ((first|((with_reducible refine yM ?_);refine kS 30 (sameFrac_ok fz9.n fz9.d f9.n f9.d ln1 ln3 (Stop.mk ?_)))|((with_reducible refine isE 31 (by decide) ?_);refine dR (rP 0 25 [] ((25,[22,24]) :: (rP 26 3 [] []))) (rgL 52 5 []) [] ?_)|refine oB ?_|fail)<;>refine sF ?_<;>try with_reducible exact tT))<;>try clear hf
 refine Stop.go ?_
 have hf:=A12 p1 p2 oo c1 c2 c3 n7 s7 r1 r2 r3 r4;refine sF ?_;(repeat' ((first|((with_reducible refine isE 31 (by decide) ?_);refine dR (rP 0 25 [] ((25,[22,24]) :: (rP 26 3 [] []))) (rgL 52 5 []) [] ?_)|refine oB ?_|fail)<;>refine sF ?_<;>try with_reducible exact tT))<;>try clear hf
 exact hk
end
section
variable {M:Mem}{K:AV→Hp→Mem→Prop}{v:SeV}{l u:List Int}{P:List FR}{fl dt d:LP}{b:List Bool}
theorem rreport_ok(failed:Bool)(h:SeR M v l P fl dt d u b)
  (hK0:playS l P fl dt d v.most u b=none→∀M',Mem.le M M'→K (.ext (.tuple #[se0V,.int .i64 1])) [] M')
  (hK1:∀X,playS l P fl dt d v.most u b=some X→(nextX l (setsL l 2) (numL d) v.most X u.length).2≠0→∀M',Mem.le M M'→K (.ext (.tuple #[se0V,.int .i64 (nextX l (setsL l 2) (numL d) v.most X u.length).2])) [] M')
  (hK:∀X,playS l P fl dt d v.most u b=some X→(nextX l (setsL l 2) (numL d) v.most X u.length).2=0→∀(w:SeV) M',Mem.le M M'→w.most=v.most→SeR M' w l P fl dt d (u++[(nextX l (setsL l 2) (numL d) v.most X u.length).1]) (b++[failed])→K (.ext (.tuple #[w.v,.int .i64 0])) [] M') :
  CallS Tryz.prog 33 [.ext v.v,.ext (.bool failed)] [] M [] K:=by
 refine CallS.frzA ?_ rfl
 refine inlS (cs:=[]) Tryz.mixed Tryz.func33 rfl (by kernel_rfl) 0 rfl rfl ?_
 simp only[Tryz.f33]
 have oo:=h.ones
 have hf:=A2 @SeV.v.eq_1 oo;refine wS ?_;refine kN 29 (rNext_ok h (fun hp M1 m1=>sG ?_) (fun X M1 hp m1=>sG ?_));all_goals clear hf
 ·have hk:=hK0 hp M1 m1
  unfold se0V at hk
  refine wG oo ?_
  exact .inl hk
 have m1:Mem.le M M1:=m1
 by_cases e0:(nextX l (setsL l 2) (numL d) v.most X u.length).2=0
 case neg=>
  have hk:=hK1 X hp e0 M1 m1
  unfold se0V at hk
  have y2:decide ((nextX l (setsL l 2) (numL d) v.most X u.length).2=0)=false:=decide_eq_false e0
  refine wG (A2 oo y2) ?_
  exact .inl hk
 have hs:=hp
 unfold playS at hs
 by_cases hh:chkC l P fl dt d v.most=0∧u.length=b.length∧(u.length:Int)≤v.most
 case neg=>rw[if_neg hh]at hs;cases hs
 obtain ⟨z1,z2,z3⟩:=hh
 have hvm:=(h.ok z1).2.2.1
 clear hs
 have hkk:=hK X hp e0
 generalize (nextX l (setsL l 2) (numL d) v.most X u.length).1=p at *
 have h1:=h.le m1
 have n1:=h.q.len
 have s1:=h.q.sl
 have n2:=h.f.len
 have s2:=h.f.sl
 have rw1:=h1.q.row
 have rw2:=h1.f.row
 have e1:(u.map intV64).map AV.ext=cE intV64 u:=rfl
 have e2:(b.map Value.bool).map AV.ext=cE Value.bool b:=rfl
 have a1:allOne (cE intV64 u)=True:=eq_true (allOne_cE intV64 (fun _=>rfl) u)
 have a2:allOne (cE Value.bool b)=True:=eq_true (allOne_cE Value.bool (fun _=>rfl) b)
 have ap1:cE intV64 u++[.ext (.int .i64 p)]=cE intV64 (u++[p]):=cE_snoc intV64 u p
 have ap2:cE Value.bool b++[.ext (.bool failed)]=cE Value.bool (b++[failed]):=cE_snoc Value.bool b failed
 have hl1:(cE intV64 u).length=u.length:=cE_len ..
 have hl2:(cE Value.bool b).length=b.length:=cE_len ..
 refine wG (A12 oo e0 e1 e2 a1 a2 n1 s1 n2 s2 rw1 (A9 rw2 ap1 ap2 hl1 hl2 @cE_ment @cE_kill @hasK_nil @Nat.mul_one)) ?_
 refine FrzA.search (T1:=3) (T2:=4) (us:=u++[p]) (bs:=b++[failed]) rfl rfl (by simp) (by simp) ⟨⟨_,rfl⟩,⟨_,rfl⟩,trivial⟩ (fun uq uf M3 m3 q1 q2 _ _=>?_)
 exact hkk ⟨v.ur,v.up,v.y1,v.y2,v.x1,v.x2,v.d1,v.d2,v.most,uq,uf⟩ M3 (m1.trans m3) rfl ⟨h1.r.le m3,h1.p.le m3,h1.o.le m3,h1.y.le m3,h1.x.le m3,h1.d.le m3,h.lb,h.pb,q1,q2,by simp only[List.length_append,List.length_singleton];omega,by simp only[List.length_append,List.length_singleton];omega⟩
end
theorem playS_begin{l:List Int}{P:List FR}{fl dt d:LP}{most:Int}(h:chkC l P fl dt d most=0)(h0:0≤most):playS l P fl dt d most [] []=some (startX l (P.map numF)):=by
 unfold playS
 rw[if_pos ⟨h,rfl,by simpa using h0⟩]
 rfl
theorem playX_snoc{l:List Int}{s:List Nat}{f g dl:Nat×Nat}{most:Int}{p:Int}{b:Bool}:∀(r:List (Int×Bool)) (n:Nat) (X Y:List Nat),playX l s f g dl most r n X=some Y→nextX l s dl most Y (n+r.length)=(p,0)→playX l s f g dl most (r++[(p,b)]) n X=some (afterX l p b f g Y s)
 | [],n,X,Y,h,hn=>by
  simp only[playX,Option.some.injEq]at h
  subst h
  rw[List.length_nil,Nat.add_zero]at hn
  rw[List.nil_append,playX,if_pos hn]
  rfl
 | (q,c) :: r,n,X,Y,h,hn=>by
  rw[playX]at h
  rw[List.cons_append,playX]
  split at h
  ·rename_i hq
   rw[if_pos hq]
   exact playX_snoc r (n+1) _ Y h (by rw[List.length_cons]at hn;rw[show n+1+r.length=n+(r.length+1) by omega];exact hn)
  ·cases h
theorem playS_snoc{l u:List Int}{P:List FR}{fl dt d:LP}{most p:Int}{b:List Bool}{X:List Nat}{q:Bool}(h:playS l P fl dt d most u b=some X)(hn:nextX l (setsL l 2) (numL d) most X u.length=(p,0))(hlt:(u.length:Int)<most):playS l P fl dt d most (u++[p]) (b++[q])=some (afterX l p q (numL fl) (numL dt) X (setsL l 2)):=by
 unfold playS at h ⊢
 by_cases hh:chkC l P fl dt d most=0∧u.length=b.length∧(u.length:Int)≤most
 ·rw[if_pos hh]at h
  rw[if_pos ⟨hh.1,by rw[List.length_append,List.length_append,hh.2.1];rfl,by rw[List.length_append,List.length_singleton];omega⟩,List.zip_append hh.2.1]
  refine playX_snoc _ 0 _ _ h ?_
  rw[List.length_zip,←hh.2.1,Nat.min_self,Nat.zero_add]
  exact hn
 ·rw[if_neg hh]at h;cases h
theorem playS_len{l u:List Int}{P:List FR}{fl dt d:LP}{most:Int}{b:List Bool}{X:List Nat}(h:playS l P fl dt d most u b=some X):u.length=b.length∧(u.length:Int)≤most:=by
 unfold playS at h
 by_cases hh:chkC l P fl dt d most=0∧u.length=b.length∧(u.length:Int)≤most
 ·exact hh.2
 ·rw[if_neg hh]at h;cases h
theorem nextX_cases{l:List Int}{s X:List Nat}{dl:Nat×Nat}{most:Int}{n:Nat}(hn:(n:Int)≤most):(decX dl X=true∧nextX l s dl most X n=(0,45))∨(decX dl X=false∧(n:Int)=most∧nextX l s dl most X n=(0,47))∨(decX dl X=false∧(n:Int)<most∧nextX l s dl most X n=(((splitX l X s:Nat):Int),0)):=by
 unfold nextX
 cases h:decX dl X with
 | true=>exact .inl ⟨rfl,by rw[if_pos rfl]⟩
 | false=>
  rw[if_neg (by decide)]
  by_cases hm:most≤(n:Int)
  ·rw[if_pos hm];exact .inr (.inl ⟨rfl,by omega,rfl⟩)
  ·rw[if_neg hm];exact .inr (.inr ⟨rfl,by omega,rfl⟩)
section
variable {M:Mem}{K:AV→Hp→Mem→Prop}{ur us uw:Value}{l:List Int}{X:List Nat}{bb:Nat}
theorem bestX_ok(hB:IsB M ur us uw l (setsL l 2) (qX X))(hP:PX (setsL l 2) X bb)(hcl:chkL l=true)(hb:Sm (bb*1000000))
  (hK:∀w1 w2 M',Mem.le M M'→IsF M' w1 w2 (ofN (red (topX X) (lsum X)).1) (ofN (red (topX X) (lsum X)).2)→K (.ext (.tuple #[.int .i64 (((setsL l 2).getD (bestN X X.length) 0:Nat):Int),.agg #[w1,w2],.int .i64 0])) [] M') :
  CallS Tryz.prog 40 [.ext (.agg #[ur,us,uw])] [] M [] K:=by
 obtain ⟨L,w1,w2,w3⟩:=hB.q
 have hm:∃m:Int,(m=1∨m=2)∧setsL l 2=setsL l m:=⟨2,.inr rfl,rfl⟩
 have lL:L.length=(setsL l 2).length:=by have:=congrArg List.length w3;rw[List.length_map,List.length_map,qX_len,hP.len]at this;exact this
 have hck:=(hP.bx hcl hm).chk (hb.le (by omega)) w3
 have hsl:=setsL_len hcl (m:=2)
 have hs0:0<(setsL l 2).length:=List.length_pos_of_mem (setsL_one hcl (.inr rfl))
 have hl8:=(chk_len hcl).2
 have hbest:bestI L (setsL l 2).length=bestN X X.length:=by
  rw[←hP.len]
  exact bestI_N hP.sum (hb.le (Nat.le_trans hP.le (Nat.le_mul_of_pos_right _ (by decide)))) (fun x hx=>lsum_mem hx) w3 _ (Nat.le_refl _)
 have hbl:=bestN_lt X X.length (by rw[hP.len];exact hs0)
 have hget:=plain_get (k:=bestN X X.length) w3 hbl
 have hsg:((setsL l 2).map fun (x:Nat)=>(x:Int)).getD (bestN X X.length) 0=(((setsL l 2).getD (bestN X X.length) 0:Nat):Int):=by
  rw[List.getD_eq_getElem?_getD,List.getD_eq_getElem?_getD,List.getElem?_map,List.getElem?_eq_getElem (by rw[←hP.len];exact hbl)]
  rfl
 refine best_ok hB.l hB.s.nat w1 w2 (by omega) (by rw[List.length_map];omega) (by omega) hck (by rw[List.length_map];exact hs0) (by rw[List.length_map];exact lL.symm) (fun c1 c2 M1 m1 g1=>?_)
 rw[List.length_map,hbest,hget.1,hget.2]at g1
 rw[List.length_map,hbest,hsg]
 exact hK c1 c2 M1 m1 g1
end
structure PlyI (M:Mem) (w:SeV) (L:List Int) (D:List FR) (N:List (Nat×Nat)) (f g dl:Nat×Nat) (most:Int) (u:List Int) (b:List Bool) (X:List Nat):Prop where
 r:SeR M w L D (opN f) (opN g) (opN dl) u b
 n:D.map prV=N.map opN
 m:w.most=most
 p:playS L D (opN f) (opN g) (opN dl) most u b=some X
theorem PlyI.le{M M':Mem}{w:SeV}{L:List Int}{D:List FR}{N:List (Nat×Nat)}{f g dl:Nat×Nat}{most:Int}{u:List Int}{b:List Bool}{X:List Nat}(h:PlyI M w L D N f g dl most u b X)(hM:Mem.le M M'):PlyI M' w L D N f g dl most u b X:=⟨h.r.le hM,h.n,h.m,h.p⟩
theorem PlyI.snoc{M M':Mem}{w w':SeV}{L:List Int}{D D':List FR}{N:List (Nat×Nat)}{f g dl:Nat×Nat}{most p:Int}{u:List Int}{b:List Bool}{X:List Nat}{q:Bool}(h:PlyI M w L D N f g dl most u b X)(hn:nextX L (setsL L 2) dl most X u.length=(p,0))(hlt:(u.length:Int)<most)(hD:D'.map prV=D.map prV)(hm:w'.most=w.most)(hR:SeR M' w' L D' (opN f) (opN g) (opN dl) (u++[p]) (b++[q])):PlyI M' w' L D' N f g dl most (u++[p]) (b++[q]) (afterX L p q f g X (setsL L 2)):=
 ⟨hR,hD.trans h.n,hm.trans h.m,by
  have h1:=playS_snoc (q:=q) h.p (by rw[numL_opN];exact hn) hlt
  rw[numL_opN,numL_opN]at h1
  rw[playS_cong hD]
  exact h1⟩
end Go.Proofs.YtiipiciemgdaeaaGreat.Sx
