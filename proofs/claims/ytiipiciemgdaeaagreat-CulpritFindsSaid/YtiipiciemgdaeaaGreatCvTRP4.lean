/- Part 38 of the texts of this claim: a symbolic executor and contracts of functions. -/
import Derived.Test.YtiipiciemgdaeaaGreatCvTRP3
import Derived.Test.YtiipiciemgdaeaaGreatCvTRCRow
import Derived.Test.YtiipiciemgdaeaaGreatCvTRCPar
import Derived.ChangeArms
import Derived.Test.YtiipiciemgdaeaaGreatCvTRCMap
import Derived.Laws.IdiomCopy
namespace Go.Proofs.YtiipiciemgdaeaaGreat.Sx
open Go Go.RowKit
set_option linter.unusedVariables false
set_option linter.unusedSimpArgs false
set_option maxRecDepth 100000
set_option maxHeartbeats 8000000
attribute [local congr] fin_congr finG_congr stepG_congr step1_congr runOps_congr brv_congr obl_congr condK_congr LoopK_congr seqK_congr CutK_congr vc_congr DrawK_congr regK_congr CallK_congr AskK_congr newK_congr retC_congr ret1_congr retK_congr outV_congr closeK_congr genR_congr appR_congr finD_congr finGD_congr stepGD_congr stepD_congr CallK0_congr runD_congr okR_congr CallS_congr vcX_congr
attribute [local congr] Stop_congr
set_option exponentiation.threshold 5000
theorem addP_addP(v:Value)(i j:Nat):addP (addP v i) j=addP v (i+j):=by
 cases v<;>try rfl
 case pointer a=>
  cases a with
  | none=>rfl
  | some a=>
   show Value.pointer (some ((a.add i).add j))=Value.pointer (some (a.add (i+j)))
   congr 2
   cases a
   simp only[Addr.add]
   by_cases h1:i=0<;>by_cases h2:j=0<;>simp[h1,h2,Nat.add_assoc]
theorem isPt_addP{v:Value}(h:isPt v=true)(i:Nat):isPt (addP v i)=true:=by
 unfold isPt at h
 split at h
 ·rfl
 ·cases h
theorem one_pt{v:Value}(h:isPt v=true):v.oneCell'=true:=by
 unfold isPt at h
 split at h
 ·rfl
 ·cases h
structure BoxS (M:Mem) (p:Value) (most:Int) (us uw up ui su e1 e2:Value):Prop where
 pt:isPt p=true
 ps:isPt (addP p 0)=true
 pe:isPt (addP p 16)=true
 am:lookM Tryz.prog 3 M (addP (addP p 0) 8)=some (.int .i64 most)
 ac:lookM Tryz.prog 22 M (addP p 11)=some us
 aw:lookM Tryz.prog 86 M (addP p 12)=some uw
 ap:lookM Tryz.prog 22 M (addP p 13)=some up
 ai:lookM Tryz.prog 22 M (addP p 14)=some ui
 au:lookM Tryz.prog 30 M (addP p 15)=some su
 a1:lookM Tryz.prog 30 M (addP (addP p 16) 0)=some e1
 a2:lookM Tryz.prog 30 M (addP (addP p 16) 1)=some e2
theorem BoxS.le{M M':Mem}{p:Value}{most:Int}{us uw up ui su e1 e2:Value}(h:BoxS M p most us uw up ui su e1 e2)(hM:Mem.le M M'):BoxS M' p most us uw up ui su e1 e2:=
 ⟨h.pt,h.ps,h.pe,lookM_le hM h.am,lookM_le hM h.ac,lookM_le hM h.aw,lookM_le hM h.ap,lookM_le hM h.ai,lookM_le hM h.au,lookM_le hM h.a1,lookM_le hM h.a2⟩
theorem boxS_of{M:Mem}{U c0 c1 c2 c3 c4 c5 c6 c7 c9 c10 us uw up ui su e1 e2:Value}{most:Int}(h:SlM M 18 U 1 [c0,c1,c2,c3,c4,c5,c6,c7,.int .i64 most,c9,c10,us,uw,up,ui,su,e1,e2]):BoxS M (elemP U 18 0) most us uw up ui su e1 e2:=by
 have pt:=h.pt (i:=0) (by decide)
 exact ⟨pt,isPt_addP pt _,isPt_addP pt _,by rw[addP_addP];exact h.atF tk3 tz3 rfl (by decide),h.atF tk22 tz22 rfl (by decide),h.atF tk86 tz86 rfl (by decide),h.atF tk22 tz22 rfl (by decide),h.atF tk22 tz22 rfl (by decide),h.atF tk30 tz30 rfl (by decide),by rw[addP_addP];exact h.atF tk30 tz30 rfl (by decide),by rw[addP_addP];exact h.atF tk30 tz30 rfl (by decide)⟩
structure IsW (M:Mem) (u:Value) (E:List NR) (X:List Nat):Prop where
 l:IsL M NR.v u E
 o:okNL M E
 x:E.map NR.n=X
theorem IsW.le{M M':Mem}{u:Value}{E:List NR}{X:List Nat}(h:IsW M u E X)(hM:Mem.le M M'):IsW M' u E X:=⟨h.l.le hM,h.o.le hM,h.x⟩
theorem IsW.len{M:Mem}{u:Value}{E:List NR}{X:List Nat}(h:IsW M u E X):E.length=X.length:=by rw[←h.x,List.length_map]
theorem IsW.z{M:Mem}{u:Value}{E:List NR}{X:List Nat}(h:IsW M u E X){k:Nat}(hk:k<E.length):IsZ M (E[k]).v (X.getD k 0):=by
 have h1:=h.o _ (List.getElem_mem hk)
 have h2:X.getD k 0=(E[k]).n:=by
  rw[←h.x,List.getD_eq_getElem?_getD,List.getElem?_map,List.getElem?_eq_getElem hk];rfl
 rw[h2];exact h1
theorem IsW.get{M:Mem}{u:Value}{E:List NR}{X:List Nat}(h:IsW M u E X)(hb:X.length<1000000){k:Nat}(hk:k<X.length) :
  ∃v,IsZ M v (X.getD k 0)∧lookM Tryz.prog 30 M (elemP u 1 k)=some v∧nilS u=false∧isSl u=true∧slen u=X.length∧decide ((k:Int)<(X.length:Int))=true∧(k:Int)<(X.length:Int)∧(0:Int)≤(k:Int)∧IntKind.i64.wrap ((k:Int)+1)=((k+1:Nat):Int):=by
 have hl:=h.len
 have f:=h.l.idx (P:=Tryz.prog) (T:=30) tk30 tz30 (by omega) (i:=k) (by omega)
 have q:=h.z (k:=k) (by omega)
 exact ⟨_,q,f.1,f.2.1,f.2.2.1,by rw[f.2.2.2.1,hl],by rw[decide_eq_true_eq];omega,by omega,by omega,f.2.2.2.2.2.2.2⟩
section
variable {M:Mem}{K:AV→Hp→Mem→Prop}{u v:Value}{x y:Nat}
theorem cMul(hu:IsZ M u x)(hv:IsZ M v y)(h:Sm (x*y))(hK:∀w M',Mem.le M M'→IsZ M' w (x*y)→FreshS M w→K (.ext w) [] M'):CallS Tryz.prog 64 [.ext u,.ext v] [] M [] K:=by
 refine inlS (cs:=[]) Tryz.mixed Tryz.func64 rfl (by kernel_rfl) 0 rfl rfl ?_
 simp only[Tryz.f64]
 have o1:=hu.one
 have o2:=hv.one
 have hf:=A2 o1 o2;refine wS ?_;refine kN 107 (zMul hu hv h (fun w M1 m1 g1 f1=>sG ?_));all_goals clear hf
 have q1:=g1.one
 have hk:=hK w M1 m1 g1 f1
 refine wG (A3 o1 o2 q1) ?_
 exact hk
theorem cAdd(hu:IsZ M u x)(hv:IsZ M v y)(h:Sm (x+y))(hK:∀w M',Mem.le M M'→IsZ M' w (x+y)→FreshS M w→K (.ext w) [] M'):CallS Tryz.prog 141 [.ext u,.ext v] [] M [] K:=by
 refine inlS (cs:=[]) Tryz.mixed Tryz.func141 rfl (by kernel_rfl) 0 rfl rfl ?_
 simp only[Tryz.f141]
 have o1:=hu.one
 have o2:=hv.one
 have hf:=A2 o1 o2;refine wS ?_;refine kN 172 (zAdd hu hv h (fun w M1 m1 g1 f1=>sG ?_));all_goals clear hf
 have q1:=g1.one
 have hk:=hK w M1 m1 g1 f1
 refine wG (A3 o1 o2 q1) ?_
 exact hk
theorem cSub(hu:IsZ M u x)(hv:IsZ M v y)(h:y≤x)(hK:∀w M',Mem.le M M'→IsZ M' w (x-y)→FreshS M w→K (.ext w) [] M'):CallS Tryz.prog 68 [.ext u,.ext v] [] M [] K:=by
 refine inlS (cs:=[]) Tryz.mixed Tryz.func68 rfl (by kernel_rfl) 0 rfl rfl ?_
 simp only[Tryz.f68]
 have o1:=hu.one
 have o2:=hv.one
 have hf:=A2 o1 o2;refine wS ?_;refine kN 109 (zSub hu hv h (fun w M1 m1 g1 f1=>sG ?_));all_goals clear hf
 have q1:=g1.one
 have hk:=hK w M1 m1 g1 f1
 refine wG (A3 o1 o2 q1) ?_
 exact hk
end
section
variable {M:Mem}{K:AV→Hp→Mem→Prop}{p us uw up ui su e1 e2:Value}{most:Int}{s X:List Nat}{E:List NR}{dl:Nat×Nat}
def bestSt(M:Mem)(p:Value)(n i a:Nat):St:={env:=[(10,.ext (.int .i64 (i:Int))),(9,.ext (.int .i64 (n:Int))),(3,.ext (.int .i64 (a:Int))),(2,.ext (.int .i64 0)),(0,.ext p)],hp:=[],M:=M,kb:=0,fx:=[]}
theorem sbest_ok(hB:BoxS M p most us uw up ui su e1 e2)(hs:IsL M natV us s)(hw:IsW M uw E X)(hl:X.length=s.length)(b:s.length<1000000)(h0:0<s.length)
  (hK:K (.ext (.int .i64 ((bestN X X.length:Nat):Int))) [] M):CallS Tryz.prog 67 [.ext p] [] M [] K:=by
 refine inlS (cs:=[]) Tryz.mixed Tryz.func67 rfl (by kernel_rfl) 0 rfl rfl ?_
 simp only[Tryz.f67]
 have pt:=hB.pt
 have po:=one_pt hB.pt
 have ac:=hB.ac
 have aw:=hB.aw
 have s1:=hs.one
 have s2:=hs.sl
 have s3:=hs.len
 have hEl:=hw.len
 have w1:=hw.l.one
 have w2:=hw.l.sl
 refine wT (A6 pt po ac s1 s2 s3) ?_
 refine ⟨fun m z=>∃i,m=s.length-i∧i≤s.length∧z=bestSt M p s.length i (bestN X i),
  ⟨s.length,bestSt M p s.length 0 0,le_sub ⟨rfl,rfl,rfl,rfl,rfl,trivial⟩ trivial rfl rfl rfl (keepLt0 _),⟨0,by omega,by omega,rfl⟩⟩,?_⟩
 rintro m z ⟨i,rfl,hi,rfl⟩
 by_cases hlt:i<s.length
 case neg=>
  obtain rfl:i=s.length:=by omega
  have d1:decide ((s.length:Int)<(s.length:Int))=false:=by simp
  rw[hl]at hK
  refine wT (A4 @bestSt.eq_1 d1 pt po) ?_
  exact hK
 have d1:decide ((i:Int)<(s.length:Int))=true:=by rw[decide_eq_true_eq];omega
 have wk:IntKind.i64.wrap ((i:Int)+1)=((i+1:Nat):Int):=succ_i (by omega)
 have hb:=bestN_le X i
 obtain ⟨v1,q1,f1⟩:=hw.get (by omega) (k:=i) (by omega)
 obtain ⟨v2,q2,f2⟩:=hw.get (by omega) (k:=bestN X i) (by omega)
 have hst:bestN X (i+1)=if X.getD (bestN X i) 0<X.getD i 0 then i else bestN X i:=rfl
 generalize hat:bestN X i=a at *
 have c1:=q1.one
 have c2:=q2.one
 by_cases h:X.getD a 0<X.getD i 0
 ·rw[if_pos h]at hst
  have d2:decide (0<cmpN (X.getD i 0) (X.getD a 0))=true:=decide_eq_true (cmpN_pos.2 h)
  have hf:=A12 @bestSt.eq_1 d1 d2 wk pt po ac aw w1 w2 f1 (A3 f2 c1 c2);refine sF ?_;(repeat' ((first|((with_reducible refine yM ?_);refine kS 108 (zCmp q1 q2 ?_))|((with_reducible refine isE 13 (by decide) ?_);refine dR (rP 0 4 [] ((4,[3]) :: (5,[]) :: (6,[]) :: (rP 7 4 [3,6] [(11,[3,6,10]),(12,[3,6]),(13,[3,6]),(14,[]),(15,[])]))) (rgL 13 14 []) [] ?_)|refine oB ?_|fail)<;>refine sF ?_<;>try with_reducible exact tT))<;>try clear hf
  exact ⟨s.length-(i+1),bestSt M p s.length (i+1) i,by omega,le_sub ⟨rfl,rfl,rfl,rfl,rfl,trivial⟩ trivial rfl rfl rfl (keepLt0 _),i+1,rfl,by omega,by rw[hst];rfl⟩
 ·rw[if_neg h]at hst
  have d2:decide (0<cmpN (X.getD i 0) (X.getD a 0))=false:=decide_eq_false (fun hh=>h (cmpN_pos.1 hh))
  have hf:=A12 @bestSt.eq_1 d1 d2 wk pt po ac aw w1 w2 f1 (A3 f2 c1 c2);refine sF ?_;(repeat' ((first|((with_reducible refine yM ?_);refine kS 108 (zCmp q1 q2 ?_))|((with_reducible refine isE 13 (by decide) ?_);refine dR (rP 0 4 [] ((4,[3]) :: (5,[]) :: (6,[]) :: (rP 7 4 [3,6] [(11,[3,6,10]),(12,[3,6]),(13,[3,6]),(14,[]),(15,[])]))) (rgL 13 14 []) [] ?_)|refine oB ?_|fail)<;>refine sF ?_<;>try with_reducible exact tT))<;>try clear hf
  exact ⟨s.length-(i+1),bestSt M p s.length (i+1) a,by omega,le_sub ⟨rfl,rfl,rfl,rfl,rfl,trivial⟩ trivial rfl rfl rfl (keepLt0 _),i+1,rfl,by omega,by rw[hst];rfl⟩
theorem sdec_ok(hB:BoxS M p most us uw up ui su e1 e2)(hs:IsL M natV us s)(hw:IsW M uw E X)(hl:X.length=s.length)(b:s.length<1000000)(h0:0<s.length)
  (hsu:IsZ M su (lsum X)) (he1:IsZ M e1 (dl.2-dl.1)) (he2:IsZ M e2 dl.2) (hd:dl.2≤1000000) (hS:Sm (lsum X*1000000))
  (hK:∀M',Mem.le M M'→K (.ext (.bool (decX dl X))) [] M'):CallS Tryz.prog 94 [.ext p] [] M [] K:=by
 refine inlS (cs:=[]) Tryz.mixed Tryz.func94 rfl (by kernel_rfl) 0 rfl rfl ?_
 simp only[Tryz.f94]
 have pt:=hB.pt
 have po:=one_pt hB.pt
 have pe:=hB.pe
 have aw:=hB.aw
 have au:=hB.au
 have a1:=hB.a1
 have a2:=hB.a2
 have w1:=hw.l.one
 have w2:=hw.l.sl
 have hEl:=hw.len
 have c1:=hsu.one
 have c2:=he1.one
 have c3:=he2.one
 have hb:=bestN_lt X X.length (by omega)
 obtain ⟨v4,q1,f1⟩:=hw.get (by omega) (k:=bestN X X.length) (by omega)
 have q1:IsZ M v4 (topX X):=q1
 have c4:=q1.one
 have ht:=topX_le (X:=X)
 have hf:=A12 pt po pe aw au a1 a2 w1 w2 f1 c1 (A3 c2 c3 c4);refine sF ?_;(repeat' ((first|((with_reducible refine yM ?_);first|refine kS 67 (sbest_ok hB hs hw hl b h0 ?_)|refine kS 64 (cMul q1 he2 (hS.le (Nat.mul_le_mul ht hd)) (fun v1 M1 m1 g1 _=>Stop.mk ?_)))|((with_reducible refine isE 3 (by decide) ?_);refine dR (rP 0 4 [] ((4,[3]) :: (rP 8 5 [3] (rP 14 4 [3,12] (rP 18 5 [3,12,17] ((5,[3,12,17,22]) :: (6,[12,17,22]) :: (7,[12,17,22]) :: (13,[17,22]) :: (rP 23 4 [] []))))))) (rgL 3 23 []) [] ?_)|refine oB ?_|fail)<;>refine sF ?_<;>try with_reducible exact tT))<;>try clear hf
 have m1:Mem.le M M1:=m1
 have p1:=g1.one
 refine Stop.go ?_
 have hf:=A10 pt po pe w1 w2 c1 c2 c3 c4 p1;refine sF ?_;(repeat' ((first|((with_reducible refine yM ?_);refine kS 64 (cMul (hsu.le m1) (he1.le m1) (hS.le (Nat.mul_le_mul_left _ (by omega))) (fun v2 M2 m2 g2 _=>Stop.mk ?_)))|((with_reducible refine isE 3 (by decide) ?_);refine dR (rP 0 4 [] ((4,[3]) :: (rP 8 5 [3] (rP 14 4 [3,12] (rP 18 5 [3,12,17] ((5,[3,12,17,22]) :: (6,[12,17,22]) :: (7,[12,17,22]) :: (13,[17,22]) :: (rP 23 4 [] []))))))) (rgL 3 23 []) [] ?_)|refine oB ?_|fail)<;>refine sF ?_<;>try with_reducible exact tT))<;>try clear hf
 have m2:Mem.le M1 M2:=m2
 have p2:=g2.one
 have hk:=hK M2 (m1.trans m2)
 have d2:decide (0≤cmpN (topX X*dl.2) (lsum X*(dl.2-dl.1)))=decX dl X:=by
  unfold decX
  congr 1
  rw[cmpN_nn,Nat.mul_comm]
 refine Stop.go ?_
 have hf:=A9 d2 pt po c1 c2 c3 c4 p1 p2;refine sF ?_;(repeat' ((first|((with_reducible refine yM ?_);refine kS 108 (zCmp (g1.le m2) g2 ?_))|((with_reducible refine isE 3 (by decide) ?_);refine dR (rP 0 4 [] ((4,[3]) :: (rP 8 5 [3] (rP 14 4 [3,12] (rP 18 5 [3,12,17] ((5,[3,12,17,22]) :: (6,[12,17,22]) :: (7,[12,17,22]) :: (13,[17,22]) :: (rP 23 4 [] []))))))) (rgL 3 23 []) [] ?_)|refine oB ?_|fail)<;>refine sF ?_<;>try with_reducible exact tT))<;>try clear hf
 exact hk
end
theorem filtX_take(c:Nat→Bool):∀(X s:List Nat) (k:Nat) (h1:k<X.length) (h2:k<s.length),lsum (filtX (X.take (k+1)) (s.take (k+1)) c)=lsum (filtX (X.take k) (s.take k) c)+(if c s[k] then X[k] else 0)
 | x :: r,y :: t,0,_,_=>by simp only[List.take_succ_cons,List.take_zero,filtX,List.getElem_cons_zero];split<;>simp[lsum,filtX]
 | x :: r,y :: t,k+1,h1,h2=>by
  simp only[List.take_succ_cons,filtX,List.getElem_cons_succ]
  have ih:=filtX_take c r t k (by simpa using h1) (by simpa using h2)
  by_cases hc:c y=true
  ·rw[if_pos hc,if_pos hc,lsum,lsum,ih,Nat.add_assoc]
  ·rw[if_neg hc,if_neg hc,ih]
section
variable {M:Mem}{K:AV→Hp→Mem→Prop}{ur us uw:Value}{l:List Int}{s X:List Nat}{b:Nat}
end
theorem lsum_take_le:∀(X:List Nat) (k:Nat),lsum (X.take k)≤lsum X
 | [],k=>by simp
 | x :: r,0=>by simp[lsum]
 | x :: r,k+1=>by
  have:=lsum_take_le r k
  simp only[List.take_succ_cons,lsum]
  omega
theorem filtX_true:∀{X s:List Nat},X.length=s.length→filtX X s (fun _=>true)=X
 | [],_,_=>by simp[filtX]
 | x :: r,[],h=>by simp at h
 | x :: r,y :: t,h=>by
  rw[filtX,if_pos rfl,filtX_true (by simpa using h)]
section
variable {M:Mem}{K:AV→Hp→Mem→Prop}{p us uw up ui su e1 e2:Value}{most:Int}{s X:List Nat}{E:List NR}{dl:Nat×Nat}
theorem sall_ok(x:Value)(hx:x.oneCell'=true)(hp:p.oneCell'=true)(hK:K (.ext (.bool true)) [] M):CallS Tryz.prog 106 [.ext p,.ext x] [] M [] K:=by
 refine inlS (cs:=[]) Tryz.mixed Tryz.func106 rfl (by kernel_rfl) 0 rfl rfl ?_
 simp only[Tryz.f106]
 refine wT (A2 hx hp) ?_
 exact hK
def skH(v:Int):Hp:=[(50,3,[.ext (.int .i64 v)])]
theorem spl1_ok(eff x:Nat)(he:eff<256)(hs:x<256)(hK:K (.ext (.bool (badC eff x))) (skH (eff:Int)) M) :
  CallS Tryz.prog 140 [.ext (.int .i64 (x:Int)),.own 50 0] (skH (eff:Int)) M [] K:=by
 refine inlS (cs:=[]) Tryz.mixed Tryz.func140 rfl (by kernel_rfl) 100 rfl rfl ?_
 simp only[Tryz.f140]
 have ba:=bits_and (a:=eff) (b:=x) (by omega) (by omega)
 unfold badC at hK
 by_cases h:eff &&& x=0
 ·rw[decide_eq_false (by simp[h])]at hK
  have d1:decide (((eff &&& x:Nat):Int)=0)=true:=by rw[h];rfl
  refine wT (A3 @skH.eq_1 ba d1) ?_
  exact hK
 ·rw[decide_eq_true h]at hK
  have d1:decide (((eff &&& x:Nat):Int)=0)=false:=by rw[decide_eq_false_iff_not];omega
  refine wT (A3 @skH.eq_1 ba d1) ?_
  exact hK
def staASt(M:Mem)(p us w:Value)(n i:Nat):St:={env:=[(14,.ext (.int .i64 (i:Int))),(13,.ext (.int .i64 (n:Int))),(12,.ext us),(5,.ext w),(4,.ext (.slice none 0 0)),(1,.bm 106 [.ext p]),(0,.ext p)],hp:=[],M:=M,kb:=0,fx:=[]}
theorem staA_ok(hB:BoxS M p most us uw up ui su e1 e2)(hs:IsL M natV us s)(hw:IsW M uw E X)(hl:X.length=s.length)(b:s.length<1000000)(hS:Sm (lsum X))
  (hK:∀w M',Mem.le M M'→IsZ M' w (totX X s (fun _=>true))→FreshS M w→K (.ext w) ([]) M'):CallS Tryz.prog 105 [.ext p,.bm 106 [.ext p]] ([]) M [] K:=by
 refine inlS (cs:=[]) Tryz.mixed Tryz.func105 rfl (by kernel_rfl) 0 rfl rfl ?_
 simp only[Tryz.f105]
 have pt:=hB.pt
 have ac:=hB.ac
 have s1:=hs.one
 have s2:=hs.sl
 have s3:=hs.len
 have hEl:=hw.len
 have w1:=hw.l.one
 have po:=one_pt hB.pt
 have hf:=A6 pt po ac s1 s2 s3;refine wS ?_;refine kN 104 (zOf 0 (by decide) (fun w M1 m1 g1 fr=>sG ?_));all_goals clear hf
 have m1:Mem.le M M1:=m1
 have p1:=g1.one
 have as1:=(hB.le m1).ac
 refine wG (A7 pt po as1 s1 s2 s3 p1) ?_
 refine ⟨fun m z=>∃M' w i,m=s.length-i∧i≤s.length∧Mem.le M M'∧IsZ M' w (lsum (filtX (X.take i) (s.take i) (fun _=>true)))∧FreshS M w∧z=staASt M' p us w s.length i,
  ⟨s.length,staASt M1 p us w s.length 0,le_sub ⟨rfl,rfl,rfl,rfl,rfl,rfl,rfl,trivial⟩ trivial rfl rfl rfl (keepLt0 _),⟨M1,w,0,by omega,by omega,m1,g1,fr,rfl⟩⟩,?_⟩
 clear p1 g1 fr m1 as1 ac
 rintro m z ⟨M1,w,i,rfl,hi,m1,g1,fr,rfl⟩
 have p1:=g1.one
 by_cases hlt:i<s.length
 case neg=>
  obtain rfl:i=s.length:=by omega
  have d1:decide ((s.length:Int)<(s.length:Int))=false:=by simp
  rw[List.take_length,List.take_of_length_le (by omega)]at g1
  have hk:=hK w M1 m1 g1 fr
  refine wT (A5 @staASt.eq_1 d1 pt po p1) ?_
  exact hk
 have hB1:=hB.le m1
 have aw:=hB1.aw
 have d1:decide ((i:Int)<(s.length:Int))=true:=by rw[decide_eq_true_eq];omega
 have wk:IntKind.i64.wrap ((i:Int)+1)=((i+1:Nat):Int):=succ_i (by omega)
 have f1:=(hs.le m1).idx (P:=Tryz.prog) (T:=3) tk3 tz3 (by omega) hlt
 obtain ⟨v1,q1,f2⟩:=(hw.le m1).get (by omega) (k:=i) (by omega)
 have c1:=q1.one
 have hst:=filtX_take (fun _=>true) X s i (by omega) hlt
 have hgx:X.getD i 0=X[i]:=by rw[List.getD_eq_getElem?_getD,List.getElem?_eq_getElem (by omega)];rfl
 have hle1:=filtX_le (fun _=>true) (X.take (i+1)) (s.take (i+1))
 have hle2:=lsum_take_le X (i+1)
 rw[←hgx]at hst
 rw[if_pos rfl]at hst
 have hf:=A12 @staASt.eq_1 @natV.eq_1 d1 wk f1 f2 pt po aw s1 s2 (A4 s3 w1 p1 c1);refine sF ?_;(repeat' ((first|((with_reducible refine yN ?_);first|refine kS 106 (sall_ok _ (one_int _ _) po ?_)|refine kS 141 (cAdd g1 q1 (hS.le (by omega)) (fun w2 M2 m2 g2 fr2=>Stop.mk ?_)))|refine oB ?_|fail)<;>refine sF ?_<;>try with_reducible exact tT))<;>try clear hf
 have m2:Mem.le M1 M2:=m2
 have p2:=g2.one
 rw[←hst]at g2
 refine wG (A8 wk d1 pt po s1 s2 s3 p2) ?_
 exact ⟨s.length-(i+1),staASt M2 p us w2 s.length (i+1),by omega,le_sub ⟨rfl,rfl,rfl,rfl,rfl,rfl,rfl,trivial⟩ trivial rfl rfl rfl (keepLt0 _),M2,w2,i+1,rfl,by omega,m1.trans m2,g2,fr2.le m1,rfl⟩
def stoBSt(M:Mem)(p us w:Value)(eff:Nat)(n i:Nat):St:={env:=[(14,.ext (.int .i64 (i:Int))),(13,.ext (.int .i64 (n:Int))),(12,.ext us),(5,.ext w),(4,.ext (.slice none 0 0)),(1,.fn 140 [.own 50 0]),(0,.ext p)],hp:=skH (eff:Int),M:=M,kb:=100,fx:=[50]}
theorem stoB_ok(eff:Nat)(he:eff<256)(hxs:∀x∈s,x<256)(hB:BoxS M p most us uw up ui su e1 e2)(hs:IsL M natV us s)(hw:IsW M uw E X)(hl:X.length=s.length)(b:s.length<1000000)(hS:Sm (lsum X))
  (hK:∀w M',Mem.le M M'→IsZ M' w (totX X s (badC eff))→FreshS M w→K (.ext w) (skH (eff:Int)) M'):CallS Tryz.prog 105 [.ext p,.fn 140 [.own 50 0]] (skH (eff:Int)) M [] K:=by
 refine inlS (cs:=[]) Tryz.mixed Tryz.func105 rfl (by kernel_rfl) 100 rfl rfl ?_
 simp only[Tryz.f105]
 have pt:=hB.pt
 have ac:=hB.ac
 have s1:=hs.one
 have s2:=hs.sl
 have s3:=hs.len
 have hEl:=hw.len
 have w1:=hw.l.one
 have po:=one_pt hB.pt
 have e0:keysH (skH (eff:Int))=[50]:=rfl
 have hf:=A7 @skH.eq_1 pt po ac s1 s2 s3;refine wS ?_;refine kN 104 (zOf 0 (by decide) (fun w M1 m1 g1 fr=>sG ?_));all_goals clear hf
 have m1:Mem.le M M1:=m1
 have p1:=g1.one
 have as1:=(hB.le m1).ac
 refine wG (A8 @skH.eq_1 pt po as1 s1 s2 s3 p1) ?_
 refine ⟨fun m z=>∃M' w i,m=s.length-i∧i≤s.length∧Mem.le M M'∧IsZ M' w (lsum (filtX (X.take i) (s.take i) (badC eff)))∧FreshS M w∧z=stoBSt M' p us w eff s.length i,
  ⟨s.length,stoBSt M1 p us w eff s.length 0,le_sub ⟨rfl,rfl,rfl,rfl,rfl,rfl,rfl,trivial⟩ ⟨rfl,trivial⟩ rfl rfl rfl (keepLt_of rfl),⟨M1,w,0,by omega,by omega,m1,g1,fr,rfl⟩⟩,?_⟩
 clear p1 g1 fr m1 as1 ac
 rintro m z ⟨M1,w,i,rfl,hi,m1,g1,fr,rfl⟩
 have p1:=g1.one
 by_cases hlt:i<s.length
 case neg=>
  obtain rfl:i=s.length:=by omega
  have d1:decide ((s.length:Int)<(s.length:Int))=false:=by simp
  rw[List.take_length,List.take_of_length_le (by omega)]at g1
  have hk:=hK w M1 m1 g1 fr
  refine wT (A6 @stoBSt.eq_1 @skH.eq_1 d1 pt po p1) ?_
  exact hk
 have hB1:=hB.le m1
 have aw:=hB1.aw
 have d1:decide ((i:Int)<(s.length:Int))=true:=by rw[decide_eq_true_eq];omega
 have wk:IntKind.i64.wrap ((i:Int)+1)=((i+1:Nat):Int):=succ_i (by omega)
 have f1:=(hs.le m1).idx (P:=Tryz.prog) (T:=3) tk3 tz3 (by omega) hlt
 obtain ⟨v1,q1,f2⟩:=(hw.le m1).get (by omega) (k:=i) (by omega)
 have c1:=q1.one
 have hst:=filtX_take (badC eff) X s i (by omega) hlt
 have hgx:X.getD i 0=X[i]:=by rw[List.getD_eq_getElem?_getD,List.getElem?_eq_getElem (by omega)];rfl
 have hle1:=filtX_le (badC eff) (X.take (i+1)) (s.take (i+1))
 have hle2:=lsum_take_le X (i+1)
 rw[←hgx]at hst
 have hx:=hxs _ (List.getElem_mem hlt)
 generalize s[i]=si at *
 cases hc:badC eff si with
 | true=>
  rw[hc,if_pos rfl]at hst
  have hf:=A12 @stoBSt.eq_1 @skH.eq_1 hc @natV.eq_1 d1 wk f1 f2 pt po aw (A6 s1 s2 s3 w1 p1 c1);refine sF ?_;(repeat' ((first|((with_reducible first|refine yA ?_|refine yC ?_);first|refine kH 140 ?_|refine kS 140 (spl1_ok eff _ he hx ?_))|((with_reducible refine yN ?_);refine kS 141 (cAdd g1 q1 (hS.le (by omega)) (fun w2 M2 m2 g2 fr2=>Stop.mk ?_)))|refine oB ?_|fail)<;>refine sF ?_<;>try with_reducible exact tT))<;>try clear hf
  have m2:Mem.le M1 M2:=m2
  have p2:=g2.one
  rw[←hst]at g2
  refine wG (A10 @skH.eq_1 hc wk d1 pt po s1 s2 s3 p2) ?_
  exact ⟨s.length-(i+1),stoBSt M2 p us w2 eff s.length (i+1),by omega,le_sub ⟨rfl,rfl,rfl,rfl,rfl,rfl,rfl,trivial⟩ ⟨rfl,trivial⟩ rfl rfl rfl (keepLt_of rfl),M2,w2,i+1,rfl,by omega,m1.trans m2,g2,fr2.le m1,rfl⟩
 | false=>
  rw[hc,if_neg (by decide)]at hst
  have hst:=hst.trans (Nat.add_zero _)
  rw[←hst]at g1
  have hf:=A12 @stoBSt.eq_1 @skH.eq_1 hc @natV.eq_1 d1 wk f1 pt po s1 s2 (A2 s3 p1);refine sF ?_;(repeat' ((first|((with_reducible first|refine yA ?_|refine yC ?_);first|refine kH 140 ?_|refine kS 140 (spl1_ok eff _ he hx ?_))|refine oB ?_|fail)<;>refine sF ?_<;>try with_reducible exact tT))<;>try clear hf
  exact ⟨s.length-(i+1),stoBSt M1 p us w eff s.length (i+1),by omega,le_sub ⟨rfl,rfl,rfl,rfl,rfl,rfl,rfl,trivial⟩ ⟨rfl,trivial⟩ rfl rfl rfl (keepLt_of rfl),M1,w,i+1,rfl,by omega,m1,g1,fr,rfl⟩
end
def pickI(f:Nat→Nat)(P:List Nat):Nat→Nat
 | 0=>0
 | i+1=>if i=0∨f (P.getD i 0)<f (P.getD (pickI f P i) 0) then i else pickI f P i
theorem pickI_le(f:Nat→Nat)(P:List Nat):∀k,pickI f P k≤k
 | 0=>Nat.le_refl _
 | k+1=>by
  rw[pickI]
  have:=pickI_le f P k
  split<;>omega
theorem pickI_lt(f:Nat→Nat)(P:List Nat):∀k,0<k→pickI f P k<k
 | k+1,_=>by
  rw[pickI]
  have:=pickI_le f P k
  split
  ·omega
  ·rename_i h
   have:=pickI_lt f P k (by omega)
   omega
def minS(f:Nat→Nat):List Nat→Nat→Nat
 | [],b=>b
 | p :: r,b=>if f p<b then minS f r (f p) else minS f r b
theorem pickS_snoc(f:Nat→Nat)(p:Nat):∀(L:List Nat) (s b:Nat),pickS f (L++[p]) s b=if f p<minS f L b then p else pickS f L s b
 | [],s,b=>by by_cases h:f p<b<;>simp[pickS,minS,h]
 | q :: r,s,b=>by
  rw[List.cons_append,pickS,pickS,minS]
  by_cases h:f q<b
  ·rw[if_pos h,if_pos h,if_pos h,pickS_snoc f p r]
  ·rw[if_neg h,if_neg h,if_neg h,pickS_snoc f p r]
theorem minS_snoc(f:Nat→Nat)(p:Nat):∀(L:List Nat) (b:Nat),minS f (L++[p]) b=if f p<minS f L b then f p else minS f L b
 | [],b=>by by_cases h:f p<b<;>simp[minS,h]
 | q :: r,b=>by
  rw[List.cons_append,minS,minS]
  by_cases h:f q<b
  ·rw[if_pos h,if_pos h,minS_snoc f p r]
  ·rw[if_neg h,if_neg h,minS_snoc f p r]
theorem pickI_S(f:Nat→Nat){P:List Nat}{s b:Nat}(h0:f (P.getD 0 0)<b):∀k,k+1≤P.length→pickS f (P.take (k+1)) s b=P.getD (pickI f P (k+1)) 0∧minS f (P.take (k+1)) b=f (P.getD (pickI f P (k+1)) 0)
 | 0,h=>by
  have e:P.take (0+1)=[]++[P.getD 0 0]:=by
   cases P with
   | nil=>simp at h
   | cons p r=>rfl
  rw[e,pickS_snoc,minS_snoc,minS,if_pos h0,if_pos h0,pickI,if_pos (.inl rfl)]
  exact ⟨rfl,rfl⟩
 | k+1,h=>by
  obtain ⟨i1,i2⟩:=pickI_S f h0 k (by omega)
  have e:P.take (k+1+1)=P.take (k+1)++[P.getD (k+1) 0]:=by
   rw[List.take_add_one,List.getD_eq_getElem?_getD,List.getElem?_eq_getElem (by omega)]
   rfl
  have e2:pickI f P (k+1+1)=if k+1=0∨f (P.getD (k+1) 0)<f (P.getD (pickI f P (k+1)) 0) then k+1 else pickI f P (k+1):=rfl
  rw[e,pickS_snoc,minS_snoc,i1,i2,e2]
  by_cases hh:f (P.getD (k+1) 0)<f (P.getD (pickI f P (k+1)) 0)
  ·rw[if_pos hh,if_pos hh,if_pos (.inr hh)]
   exact ⟨rfl,rfl⟩
  ·rw[if_neg hh,if_neg hh,if_neg (fun h=>h.elim (fun h=>by omega) hh)]
   exact ⟨rfl,rfl⟩
theorem pickI_all(f:Nat→Nat){P:List Nat}{s b:Nat}(h0:f (P.getD 0 0)<b)(h:0<P.length):P.getD (pickI f P P.length) 0=pickS f P s b:=by
 have:=(pickI_S (s:=s) f h0 (P.length-1) (by omega)).1
 rw[show P.length-1+1=P.length by omega,List.take_length]at this
 exact this.symm
theorem dX_lt{R N:Nat}(h:R≤N)(h0:0<N):dX R N<2*N:=by unfold dX;omega
section
variable {M:Mem}{K:AV→Hp→Mem→Prop}{p us uw up ui su e1 e2:Value}{most:Int}{s X P:List Nat}{E:List NR}{e:Nat→Nat}
def farX(e:Nat→Nat)(X s:List Nat)(q:Nat):Nat:=dX (totX X s (badC (e q))) (lsum X)
def leaV(e:Nat→Nat)(X s P:List Nat)(i:Nat):Nat:=if i=0 then 0 else farX e X s (P.getD (pickI (farX e X s) P i) 0)
def splSt(M:Mem)(p ui w:Value)(n i a:Nat):St:={env:=[(14,.ext (.int .i64 (i:Int))),(13,.ext (.int .i64 (n:Int))),(12,.ext ui),(4,.ext (.int .i64 (a:Int))),(3,.ext w),(2,.ext (.int .i64 0)),(0,.ext p)],hp:=[],M:=M,kb:=44,fx:=[]}
theorem ssplit_ok(hB:BoxS M p most us uw up ui su e1 e2)(hs:IsL M natV us s)(hw:IsW M uw E X)(hl:X.length=s.length)(b:s.length<1000000)(hS:Sm (lsum X*1000000))(hxs:∀x∈s,x<256)(hp:IsL M natV up P)(hi:IsL M natV ui (P.map e))(he:∀q,e q<256)(hP0:0<P.length)(hPb:P.length<1000000)(hsu:IsZ M su (lsum X))(h0:0<lsum X)
  (hK:∀M',Mem.le M M'→K (.ext (.int .i64 ((pickS (farX e X s) P 0 (2*lsum X):Nat):Int))) [] M'):CallS Tryz.prog 95 [.ext p] [] M [] K:=by
 refine inlS (cs:=[]) Tryz.mixed Tryz.func95 rfl (by kernel_rfl) 44 rfl rfl ?_
 simp only[Tryz.f95]
 have pt:=hB.pt
 have po:=one_pt hB.pt
 have ai:=hB.ai
 have s1:=hi.one
 have s2:=hi.sl
 have s3:=hi.len
 rw[List.length_map]at s3
 have hz0:IsZ M (.slice none 0 0) (leaV e X s P 0):=by
  rw[show leaV e X s P 0=0 from if_pos rfl]
  exact ⟨by rw[ofN_zero];exact isL_nil _ _ _,sm1000 (by decide)⟩
 refine wT (A6 pt po ai s1 s2 s3) ?_
 refine ⟨fun m z=>∃M' w i,m=P.length-i∧i≤P.length∧Mem.le M M'∧IsZ M' w (leaV e X s P i)∧z=splSt M' p ui w P.length i (pickI (farX e X s) P i),
  ⟨P.length,splSt M p ui (.slice none 0 0) P.length 0 0,le_sub ⟨rfl,rfl,rfl,rfl,rfl,rfl,rfl,trivial⟩ trivial rfl rfl rfl (keepLt_of rfl),⟨M,.slice none 0 0,0,by omega,by omega,Mem.le.refl _,hz0,rfl⟩⟩,?_⟩
 rintro m z ⟨M0,w,i,rfl,hi',m0,g0,rfl⟩
 have p0:=g0.one
 have hB0:=hB.le m0
 by_cases hlt:i<P.length
 case neg=>
  obtain rfl:i=P.length:=by omega
  have d1:decide ((P.length:Int)<(P.length:Int))=false:=by simp
  have ap:=hB0.ap
  have hlt:=pickI_lt (farX e X s) P P.length hP0
  have f1:=(hp.le m0).idx (P:=Tryz.prog) (T:=3) tk3 tz3 (by omega) hlt
  have hr:=pickI_all (farX e X s) (s:=0) (dX_lt (filtX_le _ _ _) h0) hP0
  rw[←hr]at hK
  have hgx:P.getD (pickI (farX e X s) P P.length) 0=P[pickI (farX e X s) P P.length]:=by rw[List.getD_eq_getElem?_getD,List.getElem?_eq_getElem hlt];rfl
  rw[hgx]at hK
  have hk:=hK M0 m0
  have u1:=hp.one
  have u2:=hp.sl
  generalize P[pickI (farX e X s) P P.length]=r at *
  generalize pickI (farX e X s) P P.length=a at *
  refine wT (A10 @splSt.eq_1 @natV.eq_1 d1 pt po p0 ap u1 u2 f1) ?_
  exact hk
 have au:=hB0.au
 have d1:decide ((i:Int)<(P.length:Int))=true:=by rw[decide_eq_true_eq];omega
 have wk:IntKind.i64.wrap ((i:Int)+1)=((i+1:Nat):Int):=succ_i (by omega)
 have f1:=(hi.le m0).idx (P:=Tryz.prog) (T:=3) tk3 tz3 (by rw[List.length_map];omega) (i:=i) (by rw[List.length_map];exact hlt)
 simp only[List.getElem_map,List.length_map]at f1
 have hst:pickI (farX e X s) P (i+1)=if i=0∨farX e X s (P.getD i 0)<farX e X s (P.getD (pickI (farX e X s) P i) 0) then i else pickI (farX e X s) P i:=rfl
 have hgx:P.getD i 0=P[i]:=by rw[List.getD_eq_getElem?_getD,List.getElem?_eq_getElem hlt];rfl
 have hlv:leaV e X s P (i+1)=farX e X s (P.getD (pickI (farX e X s) P (i+1)) 0):=if_neg (by omega)
 rw[hst]at hlv
 rw[hgx]at hst hlv
 have hq:=he P[i]
 have hfr:farX e X s P[i]=dX (totX X s (badC (e P[i]))) (lsum X):=rfl
 have hle:=filtX_le (badC (e P[i])) X s
 have hle:totX X s (badC (e P[i]))≤lsum X:=hle
 have c1:=hsu.one
 have hf:=A10 @splSt.eq_1 @natV.eq_1 d1 pt po p0 s1 s2 s3 f1;refine wS ?_;refine yH 105 ?_;refine sF ?_;refine stoB_ok _ hq hxs hB0 (hs.le m0) (hw.le m0) hl b (hS.le (by omega)) (fun w1 M1 m1 g1 _=>sG ?_);all_goals clear hf
 have m1:Mem.le M0 M1:=m1
 have p1:=g1.one
 generalize totX X s (badC (e P[i]))=R at *
 have hf:=A9 @skH.eq_1 d1 pt po p0 p1 s1 s2 s3;refine wH ?_;refine kN 141 (cAdd g1 g1 (hS.le (by omega)) (fun w2 M2 m2 g2 _=>sG ?_));all_goals clear hf
 have m2:Mem.le M1 M2:=m2
 have p2:=g2.one
 have m02:=m0.trans (m1.trans m2)
 have hB2:=hB.le m02
 have au2:=hB2.au
 have hsu2:=hsu.le m02
 refine Stop.go ?_
 by_cases hge:lsum X≤R+R
 ·have d2:decide (0≤cmpN (R+R) (lsum X))=true:=decide_eq_true (cmpN_nn.2 hge)
  have hf:=A11 d1 d2 pt po p0 p2 c1 au2 s1 s2 s3;refine sF ?_;(repeat' ((first|((with_reducible refine yN ?_);first|refine kS 108 (zCmp g2 hsu2 ?_)|refine kS 68 (cSub g2 hsu2 hge (fun w3 M3 m3 g3 _=>Stop.mk ?_)))|refine oB ?_|fail)<;>refine sF ?_<;>try with_reducible exact tT))<;>try clear hf
  have m3:Mem.le M2 M3:=m3
  have p3:=g3.one
  have m03:=m02.trans m3
  have g3:IsZ M3 w3 (farX e X s P[i]):=by rw[hfr,show dX R (lsum X)=_ from (show dX R (lsum X)=R+R-lsum X by unfold dX;omega)];exact g3
  have g4:=g0.le (m1.trans (m2.trans m3))
  refine Stop.go ?_
  by_cases hz:i=0
  ·have z3:decide ((i:Int)=0)=true:=decide_eq_true (by omega)
   rw[if_pos (.inl hz)]at hst hlv
   rw[hgx]at hlv
   rw[←hlv]at g3
   refine wT (A10 wk d1 z3 pt po p0 p3 s1 s2 s3) ?_
   exact ⟨P.length-(i+1),splSt M3 p ui w3 P.length (i+1) i,by omega,le_sub ⟨rfl,rfl,rfl,rfl,rfl,rfl,rfl,trivial⟩ trivial rfl rfl rfl (keepLt_of rfl),M3,w3,i+1,rfl,by omega,m03,g3,by rw[hst]⟩
  ·have z3:decide ((i:Int)=0)=false:=decide_eq_false (by omega)
   have g5:IsZ M3 w (farX e X s (P.getD (pickI (farX e X s) P i) 0)):=by rw[show leaV e X s P i=_ from if_neg hz]at g4;exact g4
   by_cases hc:farX e X s P[i]<farX e X s (P.getD (pickI (farX e X s) P i) 0)
   ·rw[if_pos (.inr hc)]at hst hlv
    rw[hgx]at hlv
    have z4:decide (cmpN (farX e X s P[i]) (farX e X s (P.getD (pickI (farX e X s) P i) 0))<0)=true:=by rw[cmpN_lt hc];rfl
    have hf:=A11 wk d1 z3 z4 pt po p0 p3 s1 s2 s3;refine sF ?_;(repeat' ((first|((with_reducible refine yN ?_);refine kS 108 (zCmp g3 g5 ?_))|refine oB ?_|fail)<;>refine sF ?_<;>try with_reducible exact tT))<;>try clear hf
    rw[←hlv]at g3
    exact ⟨P.length-(i+1),splSt M3 p ui w3 P.length (i+1) i,by omega,le_sub ⟨rfl,rfl,rfl,rfl,rfl,rfl,rfl,trivial⟩ trivial rfl rfl rfl (keepLt_of rfl),M3,w3,i+1,rfl,by omega,m03,g3,by rw[hst]⟩
   ·rw[if_neg (fun h=>h.elim hz hc)]at hst hlv
    have z4:decide (cmpN (farX e X s P[i]) (farX e X s (P.getD (pickI (farX e X s) P i) 0))<0)=false:=decide_eq_false (by have:=cmpN_nn.2 (Nat.le_of_not_lt hc);omega)
    have hf:=A11 wk d1 z3 z4 pt po p0 p3 s1 s2 s3;refine sF ?_;(repeat' ((first|((with_reducible refine yN ?_);refine kS 108 (zCmp g3 g5 ?_))|refine oB ?_|fail)<;>refine sF ?_<;>try with_reducible exact tT))<;>try clear hf
    rw[←hlv]at g5
    exact ⟨P.length-(i+1),splSt M3 p ui w P.length (i+1) (pickI (farX e X s) P i),by omega,le_sub ⟨rfl,rfl,rfl,rfl,rfl,rfl,rfl,trivial⟩ trivial rfl rfl rfl (keepLt_of rfl),M3,w,i+1,rfl,by omega,m03,g5,by rw[hst]⟩
 ·have d2:decide (0≤cmpN (R+R) (lsum X))=false:=decide_eq_false (fun h=>hge (cmpN_nn.1 h))
  have hf:=A11 d1 d2 pt po p0 p2 c1 au2 s1 s2 s3;refine sF ?_;(repeat' ((first|((with_reducible refine yN ?_);first|refine kS 108 (zCmp g2 hsu2 ?_)|refine kS 68 (cSub hsu2 g2 (by omega) (fun w3 M3 m3 g3 _=>Stop.mk ?_)))|refine oB ?_|fail)<;>refine sF ?_<;>try with_reducible exact tT))<;>try clear hf
  have m3:Mem.le M2 M3:=m3
  have p3:=g3.one
  have m03:=m02.trans m3
  have g3:IsZ M3 w3 (farX e X s P[i]):=by rw[hfr,show dX R (lsum X)=_ from (show dX R (lsum X)=lsum X-(R+R) by unfold dX;omega)];exact g3
  have g4:=g0.le (m1.trans (m2.trans m3))
  refine Stop.go ?_
  by_cases hz:i=0
  ·have z3:decide ((i:Int)=0)=true:=decide_eq_true (by omega)
   rw[if_pos (.inl hz)]at hst hlv
   rw[hgx]at hlv
   rw[←hlv]at g3
   refine wT (A10 wk d1 z3 pt po p0 p3 s1 s2 s3) ?_
   exact ⟨P.length-(i+1),splSt M3 p ui w3 P.length (i+1) i,by omega,le_sub ⟨rfl,rfl,rfl,rfl,rfl,rfl,rfl,trivial⟩ trivial rfl rfl rfl (keepLt_of rfl),M3,w3,i+1,rfl,by omega,m03,g3,by rw[hst]⟩
  ·have z3:decide ((i:Int)=0)=false:=decide_eq_false (by omega)
   have g5:IsZ M3 w (farX e X s (P.getD (pickI (farX e X s) P i) 0)):=by rw[show leaV e X s P i=_ from if_neg hz]at g4;exact g4
   by_cases hc:farX e X s P[i]<farX e X s (P.getD (pickI (farX e X s) P i) 0)
   ·rw[if_pos (.inr hc)]at hst hlv
    rw[hgx]at hlv
    have z4:decide (cmpN (farX e X s P[i]) (farX e X s (P.getD (pickI (farX e X s) P i) 0))<0)=true:=by rw[cmpN_lt hc];rfl
    have hf:=A11 wk d1 z3 z4 pt po p0 p3 s1 s2 s3;refine sF ?_;(repeat' ((first|((with_reducible refine yN ?_);refine kS 108 (zCmp g3 g5 ?_))|refine oB ?_|fail)<;>refine sF ?_<;>try with_reducible exact tT))<;>try clear hf
    rw[←hlv]at g3
    exact ⟨P.length-(i+1),splSt M3 p ui w3 P.length (i+1) i,by omega,le_sub ⟨rfl,rfl,rfl,rfl,rfl,rfl,rfl,trivial⟩ trivial rfl rfl rfl (keepLt_of rfl),M3,w3,i+1,rfl,by omega,m03,g3,by rw[hst]⟩
   ·rw[if_neg (fun h=>h.elim hz hc)]at hst hlv
    have z4:decide (cmpN (farX e X s P[i]) (farX e X s (P.getD (pickI (farX e X s) P i) 0))<0)=false:=decide_eq_false (by have:=cmpN_nn.2 (Nat.le_of_not_lt hc);omega)
    have hf:=A11 wk d1 z3 z4 pt po p0 p3 s1 s2 s3;refine sF ?_;(repeat' ((first|((with_reducible refine yN ?_);refine kS 108 (zCmp g3 g5 ?_))|refine oB ?_|fail)<;>refine sF ?_<;>try with_reducible exact tT))<;>try clear hf
    rw[←hlv]at g5
    exact ⟨P.length-(i+1),splSt M3 p ui w P.length (i+1) (pickI (farX e X s) P i),by omega,le_sub ⟨rfl,rfl,rfl,rfl,rfl,rfl,rfl,trivial⟩ trivial rfl rfl rfl (keepLt_of rfl),M3,w,i+1,rfl,by omega,m03,g5,by rw[hst]⟩
end
structure ScV where
 us:Value
 uw:Value
 up:Value
 ui:Value
 su:Value
 e1:Value
 e2:Value
 E:List NR
structure ScI (M:Mem) (w:ScV) (l:List Int) (s:List Nat) (dl:Nat×Nat) (X:List Nat):Prop where
 hs:IsL M natV w.us s
 hw:IsW M w.uw w.E X
 hl:X.length=s.length
 sb:s.length<1000000
 s0:0<s.length
 sx:∀x∈s,x<256
 hp:IsL M natV w.up (ivN l.length)
 hi:IsL M natV w.ui ((ivN l.length).map (effN l))
 su:IsZ M w.su (lsum X)
 e1:IsZ M w.e1 (dl.2-dl.1)
 e2:IsZ M w.e2 dl.2
 cl:chkL l=true
 d:dl.2≤1000000
 x0:0<lsum X
 xs:Sm (lsum X*1000000)
theorem ScI.le{M M':Mem}{w:ScV}{l:List Int}{s X:List Nat}{dl:Nat×Nat}(h:ScI M w l s dl X)(hM:Mem.le M M'):ScI M' w l s dl X:=
 ⟨h.hs.le hM,h.hw.le hM,h.hl,h.sb,h.s0,h.sx,h.hp.le hM,h.hi.le hM,h.su.le hM,h.e1.le hM,h.e2.le hM,h.cl,h.d,h.x0,h.xs⟩
theorem iv_pos{n:Nat}(h1:1≤n)(h2:n≤8):0<(ivN n).length:=by
 have:∀k,k<9→1≤k→0<(ivN k).length:=by decide +kernel
 exact this n (by omega) h1
theorem makF_red{x d:Nat}(h0:0<d)(hx:Sm x)(hd:Sm d):makF (ofN x) (ofN d)=(0,(red x d).1,(red x d).2):=by
 unfold makF
 rw[hx.chk,hd.chk,Bool.and_self,if_pos rfl,valN_ofN,valN_ofN,if_neg (by omega),exF_is hx.len hd.len]
 rfl
def BoxW(M:Mem)(p:Value)(most:Int)(w:ScV):Prop:=BoxS M p most w.us w.uw w.up w.ui w.su w.e1 w.e2
section
variable {M:Mem}{K:AV→Hp→Mem→Prop}{p:Value}{w:ScV}{most:Int}{l:List Int}{s X:List Nat}{dl:Nat×Nat}
theorem snext_ok(n:Nat)(hB:BoxW M p most w)(h:ScI M w l s dl X)(hn:n<1000000)
  (hK:∀M',Mem.le M M'→K (.ext (.tuple #[.int .i64 (nextX l s dl most X n).1,.int .i64 (nextX l s dl most X n).2])) [] M') :
  CallS Tryz.prog 52 [.ext p,.ext (.int .i64 (n:Int))] [] M [] K:=by
 refine inlS (cs:=[]) Tryz.mixed Tryz.func52 rfl (by kernel_rfl) 0 rfl rfl ?_
 simp only[Tryz.f52]
 have hB:BoxS M p most w.us w.uw w.up w.ui w.su w.e1 w.e2:=hB
 have pt:=hB.pt
 have po:=one_pt hB.pt
 have hf:=A2 pt po;refine wS ?_;refine kN 94 (sdec_ok hB h.hs h.hw h.hl h.sb h.s0 h.su h.e1 h.e2 h.d h.xs (fun M1 m1=>sG ?_));all_goals clear hf
 have m1:Mem.le M M1:=m1
 unfold nextX at hK
 cases hd:decX dl X with
 | true=>
  rw[if_pos hd]at hK
  have hk:=hK M1 m1
  refine wG (A3 pt po @hd) ?_
  exact hk
 | false=>
 rw[if_neg (by rw[hd];decide)]at hK
 have hB1:=hB.le m1
 have ps:=hB1.ps
 have am:=hB1.am
 by_cases hm:most≤(n:Int)
 ·rw[if_pos hm]at hK
  have hk:=hK M1 m1
  have d1:decide (most≤(n:Int))=true:=decide_eq_true hm
  refine wG (A6 pt po ps am @hd d1) ?_
  exact hk
 ·rw[if_neg hm]at hK
  have d1:decide (most≤(n:Int))=false:=decide_eq_false hm
  have h1:=h.le m1
  have hcl:=chk_len h.cl
  have hP:0<(ivN l.length).length:=iv_pos hcl.1 hcl.2
  have hPb:(ivN l.length).length<1000000:=Nat.lt_of_le_of_lt (iv_len hcl.2) (by decide)
  have hf:=A6 pt po ps am @hd d1;refine wH ?_;refine kN 95 (ssplit_ok hB1 h1.hs h1.hw h1.hl h1.sb h1.xs h1.sx h1.hp h1.hi (fun q=>effN_lt h1.cl) hP hPb h1.su h1.x0 (fun M2 m2=>sG ?_));all_goals clear hf
  have hk:=hK M2 (m1.trans m2)
  refine wG (A2 pt po) ?_
  exact hk
theorem sfind_ok(hB:BoxW M p most w)(h:ScI M w l s dl X)
  (hK:∀w1 w2 M',Mem.le M M'→IsL M' u32V w1 (ofN (red (topX X) (lsum X)).1)→IsL M' u32V w2 (ofN (red (topX X) (lsum X)).2)→FreshS M w1→FreshS M w2→K (.ext (.agg #[.bool (decX dl X),.int .i64 ((s.getD (bestN X X.length) 0:Nat):Int),w1,w2])) [] M') :
  CallS Tryz.prog 54 [.ext p] [] M [] K:=by
 refine inlS (cs:=[]) Tryz.mixed Tryz.func54 rfl (by kernel_rfl) 0 rfl rfl ?_
 simp only[Tryz.f54]
 have hB:BoxS M p most w.us w.uw w.up w.ui w.su w.e1 w.e2:=hB
 have pt:=hB.pt
 have po:=one_pt hB.pt
 have aw:=hB.aw
 have au:=hB.au
 have w1:=h.hw.l.one
 have w2:=h.hw.l.sl
 have c1:=h.su.one
 have s0:=h.s0
 have hl:=h.hl
 have sb:=h.sb
 have hb:=bestN_lt X X.length (by omega)
 obtain ⟨v4,q1,f1⟩:=h.hw.get (by omega) (k:=bestN X X.length) (by omega)
 have q1:IsZ M v4 (topX X):=q1
 have c4:=q1.one
 have hmk:=makF_red h.x0 q1.s h.su.s
 have hf:=A9 pt po aw au w1 w2 f1 c1 c4;refine sF ?_;(repeat' ((first|((with_reducible first|refine yN ?_|refine yM ?_);first|refine kS 67 (sbest_ok hB h.hs h.hw h.hl h.sb h.s0 ?_)|refine kS 51 (fmake_ok q1.l h.su.l (okN_ofN _) (okN_ofN _) q1.s.big h.su.s.big (fun v1 v2 M1 m1 g1 g2 fr1 fr2=>Stop.mk ?_)))|((with_reducible refine isE 9 (by decide) ?_);refine dR (rP 0 4 [] ((4,[3]) :: (5,[]) :: (6,[]) :: (rP 7 4 [3,6] ((15,[3,6,10]) :: (rP 11 4 [] [(16,[]),(17,[])]))))) (4 :: (rgL 8 15 [])) [] ?_)|refine oB ?_|fail)<;>refine sF ?_<;>try with_reducible exact tT))<;>try clear hf
 have m1:Mem.le M M1:=m1
 rw[hmk]at g1 g2
 have p1:=g1.one
 have p2:=g2.one
 have hB1:=hB.le m1
 have h1:=h.le m1
 have ac:=hB1.ac
 have s1:=h1.hs.one
 have s2:=h1.hs.sl
 have hbs:bestN X X.length<s.length:=by omega
 have f2:=h1.hs.idx (P:=Tryz.prog) (T:=3) tk3 tz3 (by omega) hbs
 rw[List.getD_eq_getElem?_getD,List.getElem?_eq_getElem hbs,Option.getD_some]at hK
 generalize s[bestN X X.length]=sb' at *
 generalize bestN X X.length=at' at *
 refine Stop.go ?_
 have hf:=A11 @natV.eq_1 pt po ac s1 s2 f2 c1 c4 p1 p2;refine sF ?_;(repeat' ((first|((with_reducible refine yM ?_);refine kS 94 (sdec_ok hB1 h1.hs h1.hw h1.hl h1.sb h1.s0 h1.su h1.e1 h1.e2 h1.d h1.xs (fun M2 m2=>Stop.mk ?_)))|((with_reducible refine isE 23 (by decide) ?_);refine dR ((0,[]) :: (rP 2 4 [] [(6,[5]),(7,[]),(8,[]),(9,[5,8]),(1,[5,8,9]),(10,[]),(11,[])])) (rgL 23 10 []) [] ?_)|refine oB ?_|fail)<;>refine sF ?_<;>try with_reducible exact tT))<;>try clear hf
 have m2:Mem.le M1 M2:=m2
 have hk:=hK v1 v2 M2 (m1.trans m2) (g1.le m2) (g2.le m2) fr1 fr2
 refine Stop.go ?_
 have hf:=A10 @natV.eq_1 pt po s1 s2 f2 c1 c4 p1 p2;refine sF ?_;(repeat' ((first|((with_reducible refine isE 23 (by decide) ?_);refine dR ((0,[]) :: (rP 2 4 [] [(6,[5]),(7,[]),(8,[]),(9,[5,8]),(1,[5,8,9]),(10,[]),(11,[])])) (rgL 23 10 []) [] ?_)|refine oB ?_|fail)<;>refine sF ?_<;>try with_reducible exact tT))<;>try clear hf
 exact hk
end
theorem map_ext_is{ρ:Rho}:∀{l us:List Value},isL ρ (l.map .ext) us→us=l
 | [],us,h=>h
 | v :: l,us,h=>by
  obtain ⟨u,r,rfl,h1,h2⟩:=h
  rw[show u=v from h1,map_ext_is h2]
theorem map_ext_isL{ρ:Rho}:∀l:List Value,isL ρ (l.map .ext) l
 | []=>rfl
 | v :: l=>⟨v,l,rfl,rfl,map_ext_isL l⟩
theorem CallS.borBoxG{P:Program}{f:FuncId}{k:Nat}{T:TypeId}{cs:List Value}{rest:List AV}{rest':Value→List AV}{M:Mem}{K:AV→Hp→Mem→Prop}(hm:∀j∈mentL rest,j=k)
  (hr:∀ρ p us,ρ k=some p→isL ρ rest us→∀ρ',isL ρ' (rest' (ptr p.b 0)) us)
  (h:∀U M',Mem.le M M'→SlM M' cs.length U 1 cs→CallS P f (.ext (elemP U cs.length 0) :: rest' (elemP U cs.length 0)) [] M' [] (BorK [(k,T,cs.map .ext)] M M' K)) :
  CallS P f (.own k 0 :: rest) [(k,T,cs.map .ext)] M [] K:=by
 have hlk:lkH [(k,T,cs.map AV.ext)] k=some (T,cs.map .ext):=by simp[lkH]
 refine CallS.bor3 (fun k' T' cs' j hk hj=>?_) (fun j hj=>?_) fun us M' ρ w hM hh he=>?_
 ·simp only[lkH]at hk
  split at hk
  ·cases hk;rw[mentL_ext]at hj;cases hj
  ·cases hk
 ·have:j=k:=by
   simp only[mentL,AV.ment,List.mem_append,List.mem_singleton]at hj
   rcases hj with hj|hj
   ·exact hj
   ·exact hm j hj
  subst this
  rw[hlk];rfl
 ·obtain ⟨u,r,rfl,⟨p,hp,rfl⟩,h2⟩:=he
  obtain ⟨⟨arr,h3,h4⟩,_⟩:=hh k T _ p hlk hp
  have hle:=h4.le
  rw[List.length_map]at hle
  have hs:(AV.slo k 0 1 cs.length).is ρ (.slice (some ⟨p.b,0,none⟩) 1 1):=.inl ⟨p,1,hp,rfl,Nat.le_refl _,by omega⟩
  obtain ⟨vs,g1,g2⟩:=slo_SlMg (M:=M') (cs:=cs.map .ext) hs (by rw[List.length_map];omega) (fun b hb=>by rw[hp]at hb;cases hb;exact ⟨arr,h3,h4⟩)
  rw[List.drop_zero,List.take_of_length_le (by rw[List.length_map];omega)]at g2
  have g2:=map_ext_is g2
  subst g2
  have he:elemP (.slice (some ⟨p.b,0,none⟩) 1 1) vs.length 0=ptr p.b 0:=by simp[elemP,addr_add,ptr]
  have hc:=h _ M' hM g1
  rw[he]at hc
  exact ⟨.ext (ptr p.b 0) :: rest' (ptr p.b 0),fun ρ'=>⟨_,_,rfl,rfl,hr ρ p r hp h2 ρ'⟩,hc⟩
theorem CallS.borBox{P:Program}{f:FuncId}{k:Nat}{T:TypeId}{cs:List Value}(l:List Value){M:Mem}{K:AV→Hp→Mem→Prop}
  (h:∀U M',Mem.le M M'→SlM M' cs.length U 1 cs→CallS P f (.ext (elemP U cs.length 0) :: l.map .ext) [] M' [] (BorK [(k,T,cs.map .ext)] M M' K)) :
  CallS P f (.own k 0 :: l.map .ext) [(k,T,cs.map .ext)] M [] K:=
 CallS.borBoxG (rest':=fun _=>l.map .ext) (fun j hj=>by rw[mentL_ext]at hj;cases hj) (fun ρ p us hp hu ρ'=>by rw[map_ext_is hu];exact map_ext_isL _) h
theorem CallS.borBoxM{P:Program}{f g:FuncId}{k:Nat}{T:TypeId}{cs:List Value}{M:Mem}{K:AV→Hp→Mem→Prop}
  (h:∀U M',Mem.le M M'→SlM M' cs.length U 1 cs→CallS P f [.ext (elemP U cs.length 0),.bm g [.ext (elemP U cs.length 0)]] [] M' [] (BorK [(k,T,cs.map .ext)] M M' K)) :
  CallS P f [.own k 0,.bm g [.own k 0]] [(k,T,cs.map .ext)] M [] K:=
 CallS.borBoxG (rest':=fun p=>[.bm g [.ext p]]) (fun j hj=>by simpa [mentL,AV.ment] using hj) (fun ρ p us hp hu ρ'=>by
  obtain ⟨u,r,rfl,⟨vs,⟨v,r2,rfl,⟨q,hq,rfl⟩,h3⟩,rfl⟩,h4⟩:=hu
  have h3:r2=[]:=h3
  have h4:r=[]:=h4
  subst h3 h4
  rw[hp]at hq
  cases hq
  exact ⟨_,[],rfl,⟨[ptr p.b 0],⟨_,[],rfl,rfl,rfl⟩,rfl⟩,rfl⟩) h
open Classical in
theorem Fz.cellI{z:St}{B:St→Prop}{j k n q off p0:Nat}{T T0:TypeId}{C:List AV}(cs:List Value)(E:Env)(R:Hp)(hj:lkH z.hp j=some (T0,C))(hC:C[p0]? = some (.slo k off n q))(hk:lkH z.hp k=some (T,cs.map .ext))(hn:off+n*q≤cs.length)(hkb:z.kb≤k)(hjk:j≠k)
  (hE:subE E z.env) (hE2:k∉mentE E) (hR:subHp R z.hp) (hR2:k∉mentH R) (hkeep:keepLt z.kb R z.hp) (hfx:∀k,k<z.kb→(lkH z.hp k).isSome=true→k∈z.fx)
  (h:∀M' U,Mem.le z.M M'→SlM M' q U n ((cs.drop off).take (n*q))→FreshS z.M U→B {env:=E,hp:=(j,T0,C.set p0 (.ext U)) :: R,M:=M',kb:=z.kb,fx:=z.fx,fr:=z.fr}):Fz z B:=fun c n0 a w hcx ⟨ρ,g⟩=>by
 obtain ⟨bj,hbj⟩:∃b,ρ j=some b:=by
  cases hb:ρ j with
  | none=>have:=g.no j _ _ hj hb;subst this;simp at hC
  | some b=>exact ⟨b,rfl⟩
 obtain ⟨⟨arr0,row0⟩,fj2,fj3⟩:=g.hp j _ _ bj hj hbj
 have hU:=row0.is p0 (.slo k off n q) hC
 generalize hUe:arr0.getD p0 undef=U at hU
 let D:Nat→Prop:=fun b=>∃x,ρ k=some x∧x.b=b
 let M':Mem:=fun b=>if D b then w.heap[b]? else z.M b
 have hRz:∀k x,lkH R k=some x→lkH z.hp k=some x:=subHp_lk hR
 have hRF:∀i x,lkH R i=some x→i≠k:=fun i x hx e=>by
  subst e
  exact hR2 (mentH_lk (T:=x.1) (cs:=x.2) hx (.inl rfl))
 have hMD:∀b,D b→z.M b=none:=fun b ⟨x,hx,e⟩=>by
  rw[←e];exact (g.hp k _ _ x hk hx).2.2
 have hle:Mem.le z.M M':=fun b o hb=>by
  by_cases hD:D b
  ·rw[hMD b hD]at hb;cases hb
  ·simp only[M',if_neg hD];exact hb
 have hlk:∀j x,lkH [(k,T,cs.map AV.ext)] j=some x→j=k∧x=(T,cs.map .ext):=fun j x h=>by
  simp only[lkH]at h
  split at h
  ·rename_i e;cases h;exact ⟨e.symm,rfl⟩
  ·cases h
 have hc:closedH [(k,T,cs.map AV.ext)]:=fun j T' ds q hj hq=>by
  obtain ⟨_,e⟩:=hlk j _ hj
  cases e
  rw[mentL_ext]at hq;cases hq
 have hhold:HoldH ρ z.M M' [(k,T,cs.map AV.ext)] w:=fun i T' ds b hi hb=>by
  obtain ⟨rfl,e⟩:=hlk i _ hi
  cases e
  obtain ⟨⟨arr,h1⟩,_,h2⟩:=g.hp _ _ _ b hk hb
  have hD:D b.b:=⟨b,hb,rfl⟩
  exact ⟨⟨arr,by simp only[M',if_pos hD];exact h1.there,h1⟩,h2⟩
 have hB:B {env:=E,hp:=(j,T0,C.set p0 (.ext U)) :: R,M:=M',kb:=z.kb,fx:=z.fx,fr:=z.fr}:=by
  have h2:=borI_is hhold (.slo k off n q) U (fun i hi=>by
   have:i=k:=by simpa [AV.ment] using hi
   subst this
   simp[lkH]) hU
  obtain ⟨h3,h4⟩:=h2
  have h5:=h4 T cs (by simp[lkH]) (by omega)
  exact h M' U hle h5 h3
 have hlk2:∀i x,lkH ((j,T0,C.set p0 (AV.ext U)) :: R) i=some x→(i=j∧x=(T0,C.set p0 (.ext U)))∨(i≠j∧lkH R i=some x):=fun i x hx=>by
  simp only[lkH]at hx
  split at hx
  ·rename_i e;cases hx;exact .inl ⟨e.symm,rfl⟩
  ·rename_i e;exact .inr ⟨fun e2=>e e2.symm,hx⟩
 have hsome:∀i,(lkH ((j,T0,C.set p0 (AV.ext U)) :: R) i).isSome=true→(lkH z.hp i).isSome=true:=fun i hi=>by
  obtain ⟨x,hx⟩:=Option.isSome_iff_exists.1 hi
  rcases hlk2 i x hx with ⟨rfl,_⟩|⟨_,hx⟩
  ·rw[hj];rfl
  ·rw[hRz i x hx];rfl
 have hnk:∀i,(lkH ((j,T0,C.set p0 (AV.ext U)) :: R) i).isSome=true→i≠k:=fun i hi=>by
  obtain ⟨x,hx⟩:=Option.isSome_iff_exists.1 hi
  rcases hlk2 i x hx with ⟨rfl,_⟩|⟨_,hx⟩
  ·exact hjk
  ·exact hRF i x hx
 have hnD:∀i b,(lkH ((j,T0,C.set p0 (AV.ext U)) :: R) i).isSome=true→ρ i=some b→¬D b.b:=fun i b hi hb ⟨x,hx,e⟩=>by
  exact hnk i hi (g.inj k i x b (by rw[hk];rfl) (hsome i hi) hx hb e).symm
 refine ⟨_,⟨ρ,?_⟩,hB⟩
 refine {df:=g.df,sz:=g.sz,env:=fun t=>?_,hp:=fun i T' ds b hi hb=>?_,no:=fun i T' ds hi hb=>?_,inj:=fun i i' b b' hi hi' hb hb' e=>g.inj i i' b b' (hsome i hi) (hsome i' hi') hb hb' e,os:=g.os,tape:=g.tape,output:=g.output,size:=g.size,block:=g.block,sub:=fun b o hb=>?_,le:=g.le.trans hle,mf:=fun b hb=>?_,fix:=fun i hi=>?_,fx:=g.fx,kl:=g.kl,fr:=g.fr}
 ·show (lk E t).is ρ _
  rcases subE_lk hE t with e2|e2
  ·rw[e2];trivial
  ·rw[e2];exact g.env t
 ·have hD:=hnD i b (by rw[hi];rfl) hb
  rcases hlk2 i _ hi with ⟨rfl,e⟩|⟨_,hi⟩
  ·cases e
   rw[hbj]at hb;cases hb
   refine ⟨⟨arr0,row0.there,row0.size,by rw[List.length_set];exact row0.le,fun p v hv=>?_⟩,fj2,?_⟩
   ·by_cases hp:p0=p
    ·subst hp
     rw[List.getElem?_set_self (by exact (List.getElem?_eq_some_iff.1 hC).1)]at hv
     cases hv;exact hUe
    ·rw[List.getElem?_set_ne hp]at hv
     exact row0.is p v hv
   ·show M' bj.b=none
    simp only[M',if_neg hD];exact fj3
  ·obtain ⟨f1,f2,f3⟩:=g.hp i T' ds b (hRz i _ hi) hb
   refine ⟨f1,f2,?_⟩
   show M' b.b=none
   simp only[M',if_neg hD];exact f3
 ·rcases hlk2 i _ hi with ⟨rfl,e⟩|⟨_,hi⟩
  ·rw[hbj]at hb;cases hb
  ·exact g.no i T' ds (hRz i _ hi) hb
 ·have hb:M' b=some o:=hb
  by_cases hD:D b
  ·simp only[M',if_pos hD]at hb;exact hb
  ·simp only[M',if_neg hD]at hb;exact g.sub b o hb
 ·have hb:M' b≠none:=hb
  by_cases hD:D b
  ·obtain ⟨x,hx,e⟩:=hD
   rcases (g.hp k _ _ x hk hx).2.1 with h5|h5
   ·rw[←e];exact .inr h5
   ·exfalso
    obtain ⟨k',y',h6,h7,h8⟩:=hcx.x _ h5
    have h9:=g.fix k' h6
    have h10:=g.kl k' h6
    have h11:=g.fx k' (hfx k' h10 h9)
    rw[h7]at h11
    have:=g.inj k' k y' x h9 (by rw[hk];rfl) h11 hx h8
    omega
  ·simp only[M',if_neg hD]at hb;exact g.mf b hb
 ·have h1:=keepLt_ok hkeep i (g.kl i hi) (g.fix i hi)
  simp only[lkH]
  split
  ·rfl
  ·exact h1
theorem pn_app:∀(A B:List (Nat×Nat)),pn (A++B)=pn A*pn B
 | [],B=>by simp[pn]
 | p :: r,B=>by rw[List.cons_append,pn,pn,pn_app r B,Nat.mul_assoc]
theorem pn_le8:∀{A:List (Nat×Nat)},(∀p∈A,OkN p)→pn A≤1000^A.length
 | [],_=>by simp[pn]
 | p :: r,h=>by
  have h1:=pn_le8 (A:=r) fun q hq=>h q (List.mem_cons_of_mem _ hq)
  have h2:=(h p (List.mem_cons_self ..)).le1.1
  rw[pn,List.length_cons,Nat.pow_succ,Nat.mul_comm (1000^r.length)]
  exact Nat.mul_le_mul h2 h1
theorem facN_len(s:Nat):∀(N:List (Nat×Nat)) (j:Nat),(facN s j N).length=N.length
 | [],_=>rfl
 | p :: r,j=>by rw[facN,List.length_cons,List.length_cons,facN_len s r]
theorem facN_at(s:Nat):∀(N:List (Nat×Nat)) (j i:Nat) (h:i<N.length),(facN s j N)[i]? = some (if s.testBit (j+i) then N[i] else (N[i].2-N[i].1,N[i].2))
 | p :: r,j,0,_=>by rw[facN];rfl
 | p :: r,j,i+1,h=>by
  rw[facN,List.getElem?_cons_succ,facN_at s r (j+1) i (by simpa using h)]
  rw[show j+1+i=j+(i+1) by omega]
  rfl
theorem facN_take(s:Nat)(N:List (Nat×Nat))(i:Nat)(h:i<N.length):pn ((facN s 0 N).take (i+1))=pn ((facN s 0 N).take i)*(if s.testBit i then N[i].1 else N[i].2-N[i].1):=by
 have h1:=facN_at s N 0 i h
 rw[Nat.zero_add]at h1
 rw[List.take_add_one,h1,pn_app]
 congr 1
 split<;>simp[pn]
theorem sm_take{s:Nat}{N:List (Nat×Nat)}{i:Nat}(hN:∀p∈N,OkN p)(hl:N.length≤8):pn ((facN s 0 N).take i)≤1000^8:=by
 refine Nat.le_trans (pn_le8 fun p hp=>facN_ok s N 0 hN p (List.mem_of_mem_take hp)) (Nat.pow_le_pow_right (by decide) ?_)
 rw[List.length_take,facN_len]
 omega
theorem sm_1000_9:Sm (1000^8*1000):=Nat.lt_trans (by decide:1000^8*1000<2^100) (Nat.pow_lt_pow_right (by decide) (by decide))
structure SeV where
 ur:Value
 up:Value
 y1:Value
 y2:Value
 x1:Value
 x2:Value
 d1:Value
 d2:Value
 most:Int
 uq:Value
 uf:Value
def SeV.v(v:SeV):Value:=.agg #[v.ur,v.up,v.y1,v.y2,v.x1,v.x2,v.d1,v.d2,.int .i64 v.most,v.uq,v.uf]
def SeV.c(v:SeV):List AV:=[.ext v.ur,.ext v.up,.ext v.y1,.ext v.y2,.ext v.x1,.ext v.x2,.ext v.d1,.ext v.d2,.ext (.int .i64 v.most),.ext v.uq,.ext v.uf]
def scC(v:SeV)(us:Value)(w:AV)(uv:Value)(i su e1 e2:AV):List AV:=[.ext v.ur,.ext v.up,.ext v.y1,.ext v.y2,.ext v.x1,.ext v.x2,.ext v.d1,.ext v.d2,.ext (.int .i64 v.most),.ext v.uq,.ext v.uf,.ext us,w,.ext uv,i,su,e1,e2]
def scL(v:SeV)(w:ScV):List Value:=[v.ur,v.up,v.y1,v.y2,v.x1,v.x2,v.d1,v.d2,.int .i64 v.most,v.uq,v.uf,w.us,w.uw,w.up,w.ui,w.su,w.e1,w.e2]
theorem scL_ext(v:SeV)(w:ScV):(scL v w).map AV.ext=[.ext v.ur,.ext v.up,.ext v.y1,.ext v.y2,.ext v.x1,.ext v.x2,.ext v.d1,.ext v.d2,.ext (.int .i64 v.most),.ext v.uq,.ext v.uf,.ext w.us,.ext w.uw,.ext w.up,.ext w.ui,.ext w.su,.ext w.e1,.ext w.e2]:=rfl
def scO(v:SeV)(w:ScV):Value:=.agg #[v.ur,v.up,v.y1,v.y2,v.x1,v.x2,v.d1,v.d2,.int .i64 v.most,v.uq,v.uf,w.us,w.uw,w.up,w.ui,w.su,w.e1,w.e2]
def nilE:AV:=.ext (.slice none 0 0)
def sc0:List AV:=[nilE,nilE,nilE,nilE,nilE,nilE,nilE,nilE,.ext (.int .i64 0),nilE,nilE,nilE,nilE,nilE,nilE,nilE,nilE,nilE]
structure SeI (M:Mem) (v:SeV) (l:List Int) (P:List FR) (N:List (Nat×Nat)) (f g dl:Nat×Nat):Prop where
 r:IsL M intV64 v.ur l
 c:chkL l=true
 p:IsR M 2 FR.c v.up P
 o:okFL M P
 n:P.map prV=N.map opN
 no:∀q∈N,OkN q
 nl:N.length=l.length
 y:IsF M v.y1 v.y2 (ofN f.1) (ofN f.2)
 x:IsF M v.x1 v.x2 (ofN g.1) (ofN g.2)
 d:IsF M v.d1 v.d2 (ofN dl.1) (ofN dl.2)
 fo:OkN f
 go:OkN g
 do_:OkN dl
 q1:v.uq.oneCell'=true
 q2:v.uf.oneCell'=true
theorem SeI.le{M M':Mem}{v:SeV}{l:List Int}{P:List FR}{N:List (Nat×Nat)}{f g dl:Nat×Nat}(h:SeI M v l P N f g dl)(hM:Mem.le M M'):SeI M' v l P N f g dl:=
 ⟨h.r.le hM,h.c,h.p.le hM,h.o.le hM,h.n,h.no,h.nl,h.y.le hM,h.x.le hM,h.d.le hM,h.fo,h.go,h.do_,h.q1,h.q2⟩
theorem SeI.ones{M:Mem}{v:SeV}{l:List Int}{P:List FR}{N:List (Nat×Nat)}{f g dl:Nat×Nat}(h:SeI M v l P N f g dl):v.ur.oneCell'=true∧v.up.oneCell'=true∧v.y1.oneCell'=true∧v.y2.oneCell'=true∧v.x1.oneCell'=true∧v.x2.oneCell'=true∧v.d1.oneCell'=true∧v.d2.oneCell'=true∧v.uq.oneCell'=true∧v.uf.oneCell'=true:=
 ⟨h.r.one,h.p.one,h.y.n.one,h.y.d.one,h.x.n.one,h.x.d.one,h.d.n.one,h.d.d.one,h.q1,h.q2⟩
theorem pd_le8:∀{A:List (Nat×Nat)},(∀p∈A,OkN p)→pd A≤1000^A.length
 | [],_=>by simp[pd]
 | p :: r,h=>by
  have h1:=pd_le8 (A:=r) fun q hq=>h q (List.mem_cons_of_mem _ hq)
  have h2:=(h p (List.mem_cons_self ..)).le1.2
  rw[pd,List.length_cons,Nat.pow_succ,Nat.mul_comm (1000^r.length)]
  exact Nat.mul_le_mul h2 h1
theorem start_sum{l:List Int}{N:List (Nat×Nat)}(hc:chkL l=true)(hN:∀p∈N,OkN p)(hl:N.length=l.length):lsum (startX l N)≤b0∧0<lsum (startX l N)∧0<(setsL l 2).length:=by
 have h1:pd N≤1000^8:=Nat.le_trans (pd_le8 hN) (Nat.pow_le_pow_right (by decide) (by have:=(chk_len hc).2;omega))
 have hone:=setsL_one hc (m:=2) (.inr rfl)
 unfold startX
 refine ⟨Nat.le_trans (lsum_le (b:=1000^8) fun x hx=>?_) ?_,?_,List.length_pos_of_mem hone⟩
 ·obtain ⟨s,_,rfl⟩:=List.mem_map.1 hx
  have h2:=pn_le (facN_ok s N 0 hN)
  rw[facN_pd]at h2
  omega
 ·rw[List.length_map]
  exact Nat.mul_le_mul_right _ (setsL_len hc)
 ·have hx:pn (facN 1 0 N)∈(setsL l 2).map fun s=>pn (facN s 0 N):=List.mem_map.2 ⟨1,hone,rfl⟩
  exact Nat.lt_of_lt_of_le (pn_pos (facN_ok 1 N 0 hN)) (lsum_mem hx)
theorem setB_iv{l:List Int}(hc:chkL l=true){p:Nat}(hp:p∈ivN l.length):setB l (p:Int)=true:=
 setB_of (by omega) (by have:=(iv_lt (chk_len hc).2 p hp).2;omega)
section
variable {M:Mem}{K:AV→Hp→Mem→Prop}{v:SeV}{l:List Int}{P:List FR}{N:List (Nat×Nat)}{f g dl:Nat×Nat}
def bgHp(v:SeV)(us:Value)(w:AV)(uv:Value)(i:AV):Hp:=[(3,88,scC v us w uv i nilE nilE nilE),(2,88,sc0),(1,37,v.c)]
def bgA(M:Mem)(v:SeV)(us uv:Value)(n i:Nat)(D:List Nat):St:={env:=[(30,.ext (.int .i64 (i:Int))),(29,.ext (.int .i64 (n:Int))),(28,.ext uv),(3,.own 3 0),(2,.own 2 0),(1,.own 1 0)],hp:=(45,3,cE natV D) :: bgHp v us nilE uv (.slo 45 0 i 1),M:=M,kb:=0,fx:=[]}
def bgB(M:Mem)(v:SeV)(us uv ui:Value)(n k:Nat)(E:List NR):St:={env:=[(51,.ext (.int .i64 (k:Int))),(50,.ext (.int .i64 (n:Int))),(49,.ext us),(3,.own 3 0),(2,.own 2 0),(1,.own 1 0)],hp:=(85,30,cE NR.v E) :: bgHp v us (.slo 85 0 k 1) uv (.ext ui),M:=M,kb:=0,fx:=[]}
def bgC(M:Mem)(v:SeV)(us uv ui w:Value)(s n k m j:Nat)(E:List NR):St:={env:=[(59,.ext (.int .i64 (j:Int))),(58,.ext (.int .i64 (m:Int))),(57,.ext v.up),(10,.ext w),(9,.ext (.int .i64 (s:Int))),(51,.ext (.int .i64 (k:Int))),(50,.ext (.int .i64 (n:Int))),(49,.ext us),(3,.own 3 0),(2,.own 2 0),(1,.own 1 0)],hp:=(85,30,cE NR.v E) :: bgHp v us (.slo 85 0 k 1) uv (.ext ui),M:=M,kb:=0,fx:=[]}
theorem whole_ok(hK:∀w1 w2 M',Mem.le M M'→IsF M' w1 w2 (ofN 1) (ofN 1)→FreshS M w1→FreshS M w2→K (.ext (.agg #[w1,w2])) [] M'):CallS Tryz.prog 62 [.ext (.int .i64 1)] [] M [] K:=by
 refine inlS (cs:=[]) Tryz.mixed Tryz.func62 rfl (by kernel_rfl) 0 rfl rfl ?_
 simp only[Tryz.f62]
 have e:ofF 1 1=(0,1,1):=by decide +kernel
 (try with_reducible refine Fz.of ?_);refine sU ?_;(repeat' ((first|((with_reducible refine yN ?_);refine kS 100 (fof_ok 1 1 (by decide) (by decide) (by decide) (by decide) (fun w1 w2 M1 m1 g1 g2 f1 f2=>Stop.mk ?_)))|refine oB ?_|fail)<;>refine sU ?_<;>try with_reducible exact tT))
 rw[e]at g1 g2
 have p1:=g1.one
 have p2:=g2.one
 have hk:=hK w1 w2 M1 m1 ⟨g1,g2,okN_ofN _,okN_ofN _,by decide +kernel,by decide +kernel⟩ f1 f2
 refine wG (A3 e p1 p2) ?_
 exact hk
theorem begin_ok(h:SeI M v l P N f g dl)
  (hK:∀w M',Mem.le M M'→ScI M' w l (setsL l 2) dl (startX l N)→K (.ext (scO v w)) [] M') :
  CallS Tryz.prog 63 [.ext v.v] [] M [] K:=by
 refine inlS (cs:=[9,22]) Tryz.mixed Tryz.func63 rfl (by kernel_rfl) 0 rfl rfl ?_
 simp only[Tryz.f63]
 have oo:=h.ones
 have n1:=h.r.len
 have s1:=h.r.sl
 have hcl:=chk_len h.c
 (try with_reducible refine Fz.of ?_);have hf:=A4 @SeV.v.eq_1 oo n1 s1;refine sF ?_;(repeat' ((first|((with_reducible refine yM ?_);refine kS 101 (intervals_ok l.length hcl.1 hcl.2 (fun uv M1 m1 g1 _=>Stop.mk ?_)))|((with_reducible refine isE 13 (by decide) ?_);refine dR ((0,[]) :: (rP 1 4 [0] [(7,[0,3]),(5,[0]),(6,[]),(8,[])])) (3 :: (rgL 13 7 [])) [] ?_)|refine oB ?_|fail)<;>refine sF ?_<;>try with_reducible exact tT))<;>try clear hf
 have m1:Mem.le M M1:=m1
 have p1:=g1.one
 have n2:=g1.len
 have s2:=g1.sl
 have hse:setsE l 2=0:=by unfold setsE;rw[if_pos h.c];rfl
 refine Stop.go ?_
 (try with_reducible refine Fz.of ?_);have hf:=A6 oo n1 s1 p1 n2 s2;refine sF ?_;(repeat' ((first|((with_reducible refine yN ?_);refine kS 102 (Sets_ok v.ur l 2 (h.r.le m1) (by omega) (fun us M2 m2 g2 _=>Stop.mk ?_)))|((with_reducible refine isE 13 (by decide) ?_);refine dR ((0,[]) :: (rP 1 4 [0] [(7,[0,3]),(5,[0]),(6,[]),(8,[])])) (3 :: (rgL 13 7 [])) [] ?_)|refine oB ?_|fail)<;>refine sF ?_<;>try with_reducible exact tT))<;>try clear hf
 have m2:Mem.le M1 M2:=m2
 have p2:=g2.one
 have m02:=m1.trans m2
 have g1:=g1.le m2
 have hiv:=iv_len hcl.2
 have hse:∀p∈ivN l.length,effR l (p:Int)=(((effN l p:Nat):Int),0):=fun p hp=>by
  unfold effR
  rw[if_pos h.c,if_pos (setB_iv h.c hp),Int.toNat_natCast]
 generalize hPI:ivN l.length=PI at *
 refine Stop.go ?_
 (try with_reducible refine Fz.of ?_);have hf:=A7 oo n1 s1 p1 n2 s2 p2;refine sF ?_;(repeat' ((first|((with_reducible refine isE 13 (by decide) ?_);refine dR ((0,[]) :: (rP 1 4 [0] [(7,[0,3]),(5,[0]),(6,[]),(8,[])])) (3 :: (rgL 13 7 [])) [] ?_)|refine oB ?_|fail)<;>refine sF ?_<;>try with_reducible exact tT))<;>try clear hf
 refine ⟨fun z=>∃M' ,Mem.le M2 M'∧z=bgA M' v us uv PI.length PI.length (PI.map (effN l)),?_,?_⟩
 ·(try with_reducible refine Fz.of ?_);have hf:=A7 oo n1 s1 p1 n2 s2 p2;refine sF ?_;(repeat' ((first|((with_reducible refine isE 13 (by decide) ?_);refine dR ((0,[]) :: (rP 1 4 [0] [(7,[0,3]),(5,[0]),(6,[]),(8,[])])) (3 :: (rgL 13 7 [])) [] ?_)|refine oB ?_|fail)<;>refine sF ?_<;>try with_reducible exact tT))<;>try clear hf
  refine ⟨fun m z=>∃i,m=PI.length-i∧i≤PI.length∧z=bgA M2 v us uv PI.length i ((PI.take i).map (effN l)),
   ⟨PI.length,bgA M2 v us uv PI.length 0 [],(le_nilH 3 14 45 3 88 (scC v us nilE uv nilE nilE nilE nilE) 1 rfl rfl (.inl rfl)).trans (le_sub ⟨rfl,rfl,rfl,rfl,rfl,rfl,trivial⟩ ⟨rfl,rfl,rfl,rfl,trivial⟩ rfl rfl rfl (keepLt0 _)),⟨0,by omega,by omega,rfl⟩⟩,?_⟩
  rintro m z ⟨i,rfl,hi,rfl⟩
  by_cases hlt:i<PI.length
  case neg=>
   obtain rfl:i=PI.length:=by omega
   have z1:decide ((PI.length:Int)<(PI.length:Int))=false:=by simp
   rw[List.take_length]
   refine wT (A12 @bgA.eq_1 @bgHp.eq_1 @scC.eq_1 @sc0.eq_1 @SeV.c.eq_1 @nilE.eq_1 z1 oo p1 p2 @cE_ment (A2 @cE_kill @hasK_nil)) ?_
   exact ⟨bgA M2 v us uv PI.length PI.length (PI.map (effN l)),le_sub ⟨rfl,rfl,rfl,rfl,rfl,rfl,trivial⟩ ⟨rfl,rfl,rfl,rfl,trivial⟩ rfl rfl rfl (keepLt0 _),M2,Mem.le.refl _,rfl⟩
  have z1:decide ((i:Int)<(PI.length:Int))=true:=by rw[decide_eq_true_eq];omega
  have f1:=g1.idx (P:=Tryz.prog) (T:=3) tk3 tz3 (by omega) hlt
  have he:=hse _ (List.getElem_mem hlt)
  have wi:IntKind.i64.wrap ((i:Int)+1)=((i+1:Nat):Int):=succ_i (by omega)
  have htk:(PI.take (i+1)).map (effN l)=(PI.take i).map (effN l)++[effN l PI[i]]:=by rw[List.take_add_one,List.getElem?_eq_getElem hlt,List.map_append];rfl
  have ap:cE natV ((PI.take i).map (effN l))++[.ext (.int .i64 ((effN l PI[i]:Nat):Int))]=cE natV ((PI.take (i+1)).map (effN l)):=by rw[htk];exact cE_snoc natV _ _
  have hcl2:(cE natV ((PI.take i).map (effN l))).length=i:=by rw[cE_len,List.length_map,List.length_take];omega
  generalize PI[i]=p at *
  (try with_reducible refine Fz.of ?_);have hf:=A12 @bgA.eq_1 @bgHp.eq_1 @scC.eq_1 @sc0.eq_1 @SeV.c.eq_1 @nilE.eq_1 wi @natV.eq_1 @itup.eq_1 he f1 (A9 z1 ap hcl2 oo p1 p2 @cE_ment @cE_kill @hasK_nil);refine sF ?_;(repeat' ((first|((with_reducible refine yN ?_);refine kS 103 (Effective_ok v.ur l (p:Int) (h.r.le m02) (by omega) ?_))|refine oB ?_|fail)<;>refine sF ?_<;>try with_reducible exact tT))<;>try clear hf
  exact ⟨PI.length-(i+1),bgA M2 v us uv PI.length (i+1) ((PI.take (i+1)).map (effN l)),by omega,le_sub ⟨rfl,rfl,rfl,rfl,rfl,rfl,trivial⟩ ⟨rfl,rfl,rfl,rfl,trivial⟩ rfl rfl rfl (keepLt0 _),i+1,rfl,by omega,rfl⟩
 ·rintro z ⟨M3,m3,rfl⟩
  refine Fz.cellI (k:=45) (j:=3) (p0:=14) (n:=PI.length) (q:=1) (off:=0) (T:=3) (T0:=88) ((PI.map (effN l)).map natV) [(3,.own 3 0),(2,.own 2 0),(1,.own 1 0)] [(2,88,sc0),(1,37,v.c)] rfl rfl rfl (by rw[List.length_map,List.length_map];omega) (Nat.zero_le _) (by decide) ⟨rfl,rfl,rfl,trivial⟩ (by simp[mentE,AV.ment]) ⟨rfl,rfl,trivial⟩ (by simp[mentH,mentL,AV.ment,sc0,SeV.c,nilE]) (keepLt0 _) (fun j hj _=>absurd hj (Nat.not_lt_zero _)) (fun M4 ui m4 hui _=>?_)
  have m4:Mem.le M3 M4:=m4
  rw[List.drop_zero,List.take_of_length_le (by rw[List.length_map,List.length_map];omega)]at hui
  have hui:IsL M4 natV ui (PI.map (effN l)):=by unfold IsL;rw[List.length_map];exact hui
  have p3:=hui.one
  have m24:=m3.trans m4
  have m04:=m02.trans m24
  have g2:=g2.le m24
  have n3:=g2.len
  have s3:=g2.sl
  clear m4 m3
  have hsl:(setsL l 2).length<1000000:=Nat.lt_of_le_of_lt (setsL_len h.c) (by decide)
  have hS8:∀x∈setsL l 2,x<256:=fun x hx=>(hI_ok h.c 2).2 x (by rw[toN_hI];exact hx)
  generalize hS:setsL l 2=S at *
  refine wT (A10 @scC.eq_1 @sc0.eq_1 @SeV.c.eq_1 @nilE.eq_1 oo p1 p2 p3 n3 s3) ?_
  refine ⟨fun z=>∃M' E,Mem.le M4 M'∧okNL M' E∧E.map NR.n=S.map (fun s=>pn (facN s 0 N))∧z=bgB M' v us uv ui S.length S.length E,?_,?_⟩
  ·refine wT (A10 @scC.eq_1 @sc0.eq_1 @SeV.c.eq_1 @nilE.eq_1 oo p1 p2 p3 n3 s3) ?_
   refine ⟨fun m z=>∃M' E k,m=S.length-k∧k≤S.length∧Mem.le M4 M'∧okNL M' E∧E.map NR.n=(S.take k).map (fun s=>pn (facN s 0 N))∧z=bgB M' v us uv ui S.length k E,
    ⟨S.length,bgB M4 v us uv ui S.length 0 [],(le_nilH 3 12 85 30 88 (scC v us nilE uv (.ext ui) nilE nilE nilE) 1 rfl rfl (.inl rfl)).trans (le_sub ⟨rfl,rfl,rfl,rfl,rfl,rfl,trivial⟩ ⟨rfl,rfl,rfl,rfl,trivial⟩ rfl rfl rfl (keepLt0 _)),⟨M4,[],0,by omega,by omega,Mem.le.refl _,(fun x hx=>by cases hx),rfl,rfl⟩⟩,?_⟩
   rintro m z ⟨M5,E,k,rfl,hk,m5,hE,hEv,rfl⟩
   have hEl:E.length=k:=by have:=congrArg List.length hEv;rw[List.length_map,List.length_map,List.length_take]at this;omega
   have hcl2:(cE NR.v E).length=k:=by rw[cE_len,hEl]
   by_cases hlt:k<S.length
   case neg=>
    obtain rfl:k=S.length:=by omega
    have z1:decide ((S.length:Int)<(S.length:Int))=false:=by simp
    rw[List.take_length]at hEv
    refine wT (A12 @bgB.eq_1 @bgHp.eq_1 @scC.eq_1 @sc0.eq_1 @SeV.c.eq_1 @nilE.eq_1 z1 oo p1 p2 p3 (A4 hE.all @cE_ment @cE_kill @hasK_nil)) ?_
    exact ⟨bgB M5 v us uv ui S.length S.length E,le_sub ⟨rfl,rfl,rfl,rfl,rfl,rfl,trivial⟩ ⟨rfl,rfl,rfl,rfl,trivial⟩ rfl rfl rfl (keepLt0 _),M5,E,m5,hE,hEv,rfl⟩
   have z1:decide ((k:Int)<(S.length:Int))=true:=by rw[decide_eq_true_eq];omega
   have f1:=(g2.le m5).idx (P:=Tryz.prog) (T:=3) tk3 tz3 (by omega) hlt
   have wi:IntKind.i64.wrap ((k:Int)+1)=((k+1:Nat):Int):=succ_i (by omega)
   have htk:(S.take (k+1)).map (fun s=>pn (facN s 0 N))=(S.take k).map (fun s=>pn (facN s 0 N))++[pn (facN S[k] 0 N)]:=by rw[List.take_add_one,List.getElem?_eq_getElem hlt,List.map_append];rfl
   have hs8:S[k]<256:=hS8 _ (List.getElem_mem hlt)
   generalize S[k]=s at *
   have n4:=h.p.len
   have s4:=h.p.sl
   have hPl:P.length=N.length:=by have:=congrArg List.length h.n;simpa using this
   have hN8:N.length≤8:=by have:=h.nl;omega
   have hf:=A12 @bgB.eq_1 @bgHp.eq_1 @scC.eq_1 @sc0.eq_1 @SeV.c.eq_1 @nilE.eq_1 @natV.eq_1 f1 z1 oo p1 (A8 p2 p3 n4 s4 hE.all @cE_ment @cE_kill @hasK_nil);refine wS ?_;refine kN 104 (zOf 1 (by decide) (fun w M6 m6 g6 _=>sG ?_));all_goals clear hf
   have m6:Mem.le M5 M6:=m6
   have q6:=g6.one
   refine wG (A12 @scC.eq_1 @sc0.eq_1 @SeV.c.eq_1 @nilE.eq_1 oo p1 p2 p3 q6 n4 s4 (A4 hE.all @cE_ment @cE_kill @hasK_nil)) ?_
   refine ⟨fun m z=>∃M' w j,m=P.length-j∧j≤P.length∧Mem.le M6 M'∧IsZ M' w (pn ((facN s 0 N).take j))∧z=bgC M' v us uv ui w s S.length k P.length j E,
    ⟨P.length,bgC M6 v us uv ui w s S.length k P.length 0 E,le_sub ⟨rfl,rfl,rfl,rfl,rfl,rfl,rfl,rfl,rfl,rfl,rfl,trivial⟩ ⟨rfl,rfl,rfl,rfl,trivial⟩ rfl rfl rfl (keepLt0 _),⟨M6,w,0,by omega,by omega,Mem.le.refl _,g6,rfl⟩⟩,?_⟩
   clear g6 q6
   rintro m' z ⟨M7,w,j,rfl,hj,m7,g7,rfl⟩
   have q7:=g7.one
   have m47:=m5.trans (m6.trans m7)
   have m07:=m04.trans m47
   by_cases hjt:j<P.length
   case neg=>
    obtain rfl:j=P.length:=by omega
    have z2:decide ((P.length:Int)<(P.length:Int))=false:=by simp
    rw[List.take_of_length_le (by rw[facN_len];omega)]at g7
    have ap:cE NR.v E++[.ext w]=cE NR.v (E++[⟨w,pn (facN s 0 N)⟩]):=(cE_snoc NR.v E ⟨w,_⟩)
    refine wT (A12 @bgC.eq_1 @bgHp.eq_1 @scC.eq_1 @sc0.eq_1 @SeV.c.eq_1 @nilE.eq_1 z2 wi ap hcl2 oo (A8 p1 p2 p3 q7 hE.all @cE_ment @cE_kill @hasK_nil)) ?_
    exact ⟨S.length-(k+1),bgB M7 v us uv ui S.length (k+1) (E++[⟨w,pn (facN s 0 N)⟩]),by omega,le_sub ⟨rfl,rfl,rfl,rfl,rfl,rfl,trivial⟩ ⟨rfl,rfl,rfl,rfl,trivial⟩ rfl rfl rfl (keepLt0 _),M7,_,k+1,rfl,by omega,m47,(hE.le (m6.trans m7)).snoc g7,by rw[List.map_append,hEv,htk];rfl,rfl⟩
   have z2:decide ((j:Int)<(P.length:Int))=true:=by rw[decide_eq_true_eq];omega
   have q3:(0:Int)≤(j:Int):=by omega
   have q4:(j:Int)<(P.length:Int):=by omega
   have hu2:=h.p.le m07
   have hnn:=hu2.nn hjt
   have hat:=hu2.at (P:=Tryz.prog) (T:=32) (fun _=>rfl) tk32 tz32 hjt
   have hF:=(h.o.le m07) _ (List.getElem_mem hjt)
   have wj:IntKind.i64.wrap ((j:Int)+1)=((j+1:Nat):Int):=succ_i (by omega)
   have hjN:j<N.length:=by omega
   have htj:=facN_take s N j hjN
   have hsz:=sm_take (s:=s) (i:=j) h.no hN8
   have hok:=h.no _ (List.getElem_mem hjN)
   have hpv:=congrArg (fun t=>t[j]?) h.n
   simp only[List.getElem?_map,List.getElem?_eq_getElem hjt,List.getElem?_eq_getElem hjN,Option.map_some]at hpv
   have hpv:=Option.some.inj hpv
   have sh:=shr_nat s j (by omega)
   have ib:=in_bit s j (by omega)
   generalize P[j]=x at *
   generalize N[j]=q at *
   obtain ⟨x1,x2,l1,l2⟩:=x
   have hat2:lookM Tryz.prog 32 M7 (elemP v.up 2 j)=some (.agg #[x1,x2]):=hat
   clear hat
   have hF:IsF M7 x1 x2 l1 l2:=hF
   have e1:l1=ofN q.1:=congrArg Prod.fst hpv
   have e2:l2=ofN q.2:=congrArg Prod.snd hpv
   subst e1 e2
   obtain ⟨b1,b2,b3,b4⟩:=hok.sm
   obtain ⟨b5,b6⟩:=hok.le1
   have b7:=hok.2.1
   have hz1:IsZ M7 x1 q.1:=⟨hF.n,b3⟩
   have hz2:IsZ M7 x2 q.2:=⟨hF.d,b4⟩
   have q8:=hz1.one
   have q9:=hz2.one
   cases hb:s.testBit j with
   | true=>
    rw[hb]at ib
    rw[hb,if_pos rfl]at htj
    have hf:=A12 @bgC.eq_1 @bgHp.eq_1 @scC.eq_1 @sc0.eq_1 @SeV.c.eq_1 @nilE.eq_1 z2 q3 q4 sh ib (A12 hnn hat2 oo p1 p2 p3 q7 q8 q9 n4 s4 (A4 hE.all @cE_ment @cE_kill @hasK_nil));refine wS ?_;refine kN 64 (cMul g7 hz1 (sm_1000_9.le (Nat.mul_le_mul hsz b5)) (fun w8 M8 m8 g8 _=>sG ?_));all_goals clear hf
    have m8:Mem.le M7 M8:=m8
    have q10:=g8.one
    rw[←htj]at g8
    refine wG (A12 @scC.eq_1 @sc0.eq_1 @SeV.c.eq_1 @nilE.eq_1 wj oo p1 p2 p3 q8 q9 (A7 q10 n4 s4 hE.all @cE_ment @cE_kill @hasK_nil)) ?_
    exact ⟨P.length-(j+1),bgC M8 v us uv ui w8 s S.length k P.length (j+1) E,by omega,le_sub ⟨rfl,rfl,rfl,rfl,rfl,rfl,rfl,rfl,rfl,rfl,rfl,trivial⟩ ⟨rfl,rfl,rfl,rfl,trivial⟩ rfl rfl rfl (keepLt0 _),M8,w8,j+1,rfl,by omega,m7.trans m8,g8,rfl⟩
   | false=>
    rw[hb]at ib
    rw[hb,if_neg (by decide)]at htj
    have hf:=A12 @bgC.eq_1 @bgHp.eq_1 @scC.eq_1 @sc0.eq_1 @SeV.c.eq_1 @nilE.eq_1 z2 q3 q4 sh ib (A12 hnn hat2 oo p1 p2 p3 q7 q8 q9 n4 s4 (A4 hE.all @cE_ment @cE_kill @hasK_nil));refine wS ?_;refine kN 68 (cSub hz2 hz1 (by omega) (fun w8 M8 m8 g8 _=>sG ?_));all_goals clear hf
    have m8:Mem.le M7 M8:=m8
    have q10:=g8.one
    have hf:=A12 @scC.eq_1 @sc0.eq_1 @SeV.c.eq_1 @nilE.eq_1 oo p1 p2 p3 q7 q8 q9 (A7 q10 n4 s4 hE.all @cE_ment @cE_kill @hasK_nil);refine wH ?_;refine kN 64 (cMul (g7.le m8) g8 (sm_1000_9.le (Nat.mul_le_mul hsz (by omega))) (fun w9 M9 m9 g9 _=>sG ?_));all_goals clear hf
    have m9:Mem.le M8 M9:=m9
    have q11:=g9.one
    rw[←htj]at g9
    refine wG (A12 @scC.eq_1 @sc0.eq_1 @SeV.c.eq_1 @nilE.eq_1 wj oo p1 p2 p3 q8 q9 (A8 q10 q11 n4 s4 hE.all @cE_ment @cE_kill @hasK_nil)) ?_
    exact ⟨P.length-(j+1),bgC M9 v us uv ui w9 s S.length k P.length (j+1) E,by omega,le_sub ⟨rfl,rfl,rfl,rfl,rfl,rfl,rfl,rfl,rfl,rfl,rfl,trivial⟩ ⟨rfl,rfl,rfl,rfl,trivial⟩ rfl rfl rfl (keepLt0 _),M9,w9,j+1,rfl,by omega,m7.trans (m8.trans m9),g9,rfl⟩
  ·rintro z ⟨M5,E,m5,hE,hEv,rfl⟩
   have hEl:E.length=S.length:=by have:=congrArg List.length hEv;rw[List.length_map,List.length_map]at this;exact this
   refine Fz.cellI (k:=85) (j:=3) (p0:=12) (n:=S.length) (q:=1) (off:=0) (T:=30) (T0:=88) (E.map NR.v) [(3,.own 3 0),(2,.own 2 0),(1,.own 1 0)] [(2,88,sc0),(1,37,v.c)] rfl rfl rfl (by rw[List.length_map];omega) (Nat.zero_le _) (by decide) ⟨rfl,rfl,rfl,trivial⟩ (by simp[mentE,AV.ment]) ⟨rfl,rfl,trivial⟩ (by simp[mentH,mentL,AV.ment,sc0,SeV.c,nilE]) (keepLt0 _) (fun j hj _=>absurd hj (Nat.not_lt_zero _)) (fun M6 uw m6 huw _=>?_)
   have m6:Mem.le M5 M6:=m6
   rw[List.drop_zero,List.take_of_length_le (by rw[List.length_map];omega)]at huw
   have huw:IsL M6 NR.v uw E:=by unfold IsL;rw[hEl];exact huw
   have q4:=huw.one
   have m46:=m5.trans m6
   have m06:=m04.trans m46
   have hW:IsW M6 uw E (startX l N):=⟨huw,hE.le m6,by rw[hEv];unfold startX;rw[hS]⟩
   (try with_reducible refine Fz.of ?_);have hf:=A9 @scC.eq_1 @sc0.eq_1 @SeV.c.eq_1 @nilE.eq_1 oo p1 p2 p3 q4;refine sF ?_;(repeat' ((first|((with_reducible refine yM ?_);refine kS 62 (whole_ok (fun w1 w2 M7 m7 g7 _ _=>Stop.mk ?_)))|((with_reducible refine isE 89 (by decide) ?_);refine dR ((1,[]) :: (2,[]) :: (0,[2]) :: (rP 3 6 [] [])) (rgL 89 3 (rgL 93 3 [])) [] ?_)|refine oB ?_|fail)<;>refine sF ?_<;>try with_reducible exact tT))<;>try clear hf
   have m7:Mem.le M6 M7:=m7
   have q5:=g7.n.one
   have q6:=g7.d.one
   refine Stop.go ?_
   (try with_reducible refine Fz.of ?_);have hf:=A11 @scC.eq_1 @sc0.eq_1 @SeV.c.eq_1 @nilE.eq_1 oo p1 p2 p3 q4 q5 q6;refine sF ?_;(repeat' ((first|((with_reducible refine yM ?_);refine kS 41 (fsub_ok g7 (h.d.le (m06.trans m7)) (fun e1 e2 M8 m8 g8 g9 _ _=>Stop.mk ?_)))|((with_reducible refine isE 89 (by decide) ?_);refine dR ((1,[]) :: (2,[]) :: (0,[2]) :: (rP 3 6 [] [])) (rgL 89 3 (rgL 93 3 [])) [] ?_)|refine oB ?_|fail)<;>refine sF ?_<;>try with_reducible exact tT))<;>try clear hf
   have m8:Mem.le M7 M8:=m8
   obtain ⟨b1,b2,b3,b4⟩:=h.do_.sm
   have hsub:=sub_1r (x:=dl.1) (d:=dl.2) b2 b3 b4 (by have:=h.do_.2.1;omega)
   rw[red_okn h.do_,red_okn h.do_.oth]at hsub
   rw[hsub]at g8 g9
   have q7:=g8.one
   have q8:=g9.one
   refine Stop.go ?_
   (try with_reducible refine Fz.of ?_);have hf:=A12 @scC.eq_1 @sc0.eq_1 @SeV.c.eq_1 @nilE.eq_1 hsub oo p1 p2 p3 q4 q5 (A3 q6 q7 q8);refine sF ?_;(repeat' ((first|((with_reducible refine isE 89 (by decide) ?_);refine dR ((1,[]) :: (2,[]) :: (0,[2]) :: (rP 3 6 [] [])) (rgL 89 3 (rgL 93 3 [])) [] ?_)|refine oB ?_|fail)<;>refine sF ?_<;>try with_reducible exact tT))<;>try clear hf
   have hd8:IsZ M8 e1 (dl.2-dl.1):=⟨g8,b4.le (by omega)⟩
   obtain ⟨hX,hx0,hs0⟩:=start_sum h.c h.no h.nl
   have hsx:Sm (lsum (startX l N)*1000000):=(smC (j:=1) (by decide)).le (Nat.mul_le_mul hX (by decide))
   rw[hS]at hs0
   have hXl:(startX l N).length=S.length:=by unfold startX;rw[List.length_map,hS]
   have m68:=m7.trans m8
   have m08:=m06.trans m68
   have hf:=A12 @scC.eq_1 @sc0.eq_1 @SeV.c.eq_1 @nilE.eq_1 oo p1 p2 p3 q4 q5 q6 (A2 q7 q8);refine wS ?_;refine yH 105 ?_;refine sF ?_;refine CallS.borBoxM (cs:=scL v ⟨us,uw,uv,ui,.slice none 0 0,e1,e2,E⟩) (fun U M9 m9 hU=>staA_ok (boxS_of hU) ((g2.le (m46.trans m68)).le m9) ((hW.le m68).le m9) hXl hsl (hsx.le (by omega)) (fun w9 M10 m10 g10 fr=>⟨fun _ _=>rfl,fun M11 m11 k11 _=>sG ?_⟩));all_goals clear hf
   have m9:Mem.le M8 M11:=m11
   have hz9:IsZ M11 w9 (lsum (startX l N)):=by
    rw[show totX (startX l N) S (fun _=>true)=lsum (startX l N) from by unfold totX;rw[filtX_true hXl]]at g10
    exact ⟨g10.l.move (fr.le (Mem.le.refl _)) k11,g10.s⟩
   have q9:=hz9.one
   have hk:=hK ⟨us,uw,uv,ui,w9,e1,e2,E⟩ M11 (m08.trans m9) ⟨(g2.le (m46.trans m68)).le m9,(hW.le m68).le m9,hXl,hsl,hs0,hS8,by rw[hPI];exact (g1.le (m24.trans (m46.trans m68))).le m9,by rw[hPI];exact (hui.le (m46.trans m68)).le m9,hz9,hd8.le m9,⟨g9.le m9,b4⟩,h.c,by have:=h.do_.le1.2;omega,hx0,hsx⟩
   refine wG (A12 @scC.eq_1 @sc0.eq_1 @SeV.c.eq_1 @nilE.eq_1 @scL_ext oo p1 p2 p3 q4 q5 (A4 q6 q7 q8 q9)) ?_
   exact hk
end
end Go.Proofs.YtiipiciemgdaeaaGreat.Sx
namespace Go.Proofs.YtiipiciemgdaeaaGreat.Sx
set_option linter.unusedVariables false
open Go Go.RowKit Go.ChangeShapes Go.WideShapes Go.ChangeAt
section
variable {H:Type}{enc:TypeId×Value→H}{P:Program}{W:World}{base:Nat}{spare:Nat→Bool}{held:Bool}
end
structure RawF (M:Mem) (x:FR):Prop where
 n:IsL M u32V x.u1 x.l1
 d:IsL M u32V x.u2 x.l2
 on:okN x.l1
 od:okN x.l2
 bn:x.l1.length≤140737488351232
 bd:x.l2.length≤140737488351232
section
variable {H:Type}{enc:TypeId×Value→H}{P:Program}{W:World}{base:Nat}{spare:Nat→Bool}{held:Bool}
end
end Go.Proofs.YtiipiciemgdaeaaGreat.Sx
namespace Go.Proofs.YtiipiciemgdaeaaGreat.Sx
open Go Go.RowKit
set_option linter.unusedVariables false
set_option linter.unusedSimpArgs false
set_option maxRecDepth 100000
set_option maxHeartbeats 8000000
attribute [local congr] fin_congr finG_congr stepG_congr step1_congr runOps_congr brv_congr obl_congr condK_congr LoopK_congr seqK_congr CutK_congr vc_congr DrawK_congr regK_congr CallK_congr AskK_congr newK_congr retC_congr ret1_congr retK_congr outV_congr closeK_congr genR_congr appR_congr finD_congr finGD_congr stepGD_congr stepD_congr CallK0_congr runD_congr okR_congr CallS_congr vcX_congr
attribute [local congr] Stop_congr
set_option exponentiation.threshold 5000
theorem cmpN_le1{x y:Nat}(h:decide (cmpN x y≤0)=true):x≤y:=by
 rw[decide_eq_true_eq]at h
 unfold cmpN at h
 (repeat' split at h)<;>omega
theorem cmpN_lt1{x y:Nat}(h:decide (cmpN x y<0)=true):x<y:=by
 rw[decide_eq_true_eq]at h
 unfold cmpN at h
 (repeat' split at h)<;>omega
theorem chkN_1000:chkN (ofN 1000)=true:=chkN_ofN (sm1000 (by decide)).len
theorem chkF_11:chkF (ofN 1) (ofN 1)=true:=by decide +kernel
theorem inn_okn{a b:List Nat}(ha:okN a)(hb:okN b)(h:innF a b=true):∃p:Nat×Nat,OkN p∧(a,b)=opN p:=by
 unfold innF chaF at h
 simp only[Bool.and_eq_true]at h
 obtain ⟨⟨hc,_,h1000⟩,h0,hlt⟩:=h
 obtain ⟨e1,e2,b1,b2,hd,hg⟩:=chkF_ok ha hb hc
 refine ⟨(valN a,valN b),⟨?_,?_,?_,hg⟩,?_⟩
 ·rw[decide_eq_true_eq]at h0
  rcases Nat.eq_zero_or_pos (valN a) with e|e
  ·have:=(nil_iff e1).2 e;omega
  ·exact e
 ·unfold cmpF at hlt
  rw[hc,chkF_11,Bool.and_self,if_pos rfl,valN_ofN,Nat.mul_one,Nat.one_mul]at hlt
  exact cmpN_lt1 hlt
 ·unfold cmpR at h1000
  have hcb:chkN b=true:=by
   unfold chkF at hc
   simp only[Bool.and_eq_true]at hc
   exact hc.1.1.2
  rw[hcb,chkN_1000,Bool.and_self,if_pos rfl,valN_ofN]at h1000
  exact cmpN_le1 h1000
 ·unfold opN
  rw[←e1,←e2]
theorem all_okn:∀{P:List FR},(∀x∈P,okN x.l1∧okN x.l2)→P.all (fun x=>innF x.l1 x.l2)=true→∃N:List (Nat×Nat),P.map prV=N.map opN∧∀p∈N,OkN p
 | [],_,_=>⟨[],rfl,by simp⟩
 | x :: r,hP,h=>by
  rw[List.all_cons,Bool.and_eq_true]at h
  obtain ⟨N,h1,h2⟩:=all_okn (P:=r) (fun y hy=>hP y (List.mem_cons_of_mem _ hy)) h.2
  obtain ⟨h3,h4⟩:=hP x (List.mem_cons_self ..)
  obtain ⟨p,h5,h6⟩:=inn_okn h3 h4 h.1
  refine ⟨p :: N,?_,?_⟩
  ·rw[List.map_cons,List.map_cons,h1,←h6];rfl
  ·intro q hq
   rcases List.mem_cons.1 hq with rfl|hq
   ·exact h5
   ·exact h2 q hq
theorem prod_few{P:List FR}(hP:∀x∈P,okN x.l1∧okN x.l2):P.all (fun x=>innF x.l1 x.l2)=true→P.length≤8→∀s,(prodV 1 1 (facG s 0 P)).1=0:=fun h h8 s=>by
 obtain ⟨N,h1,h2⟩:=all_okn hP h
 exact (newW_red h1 h2 (by have:=congrArg List.length h1;simp at this;omega) s).1
structure NewP (r:BR):Prop where
 chk:∀L:List FR,L.map prV=r.q.map (fun q=>(ofN q.1,ofN q.2))→chkB r.l (r.s.map fun (x:Nat)=>(x:Int)) L=decide (r.e=0)
 l:r.l.length<1000000
 s:r.s.length<1000000
 q:r.q.length<1000000
section
variable {M:Mem}{K:AV→Hp→Mem→Prop}{ur up:Value}{l:List Int}{P:List FR}
end
section
variable {M:Mem}{K:AV→Hp→Mem→Prop}{u1 u2:Value}{l1 l2:List Nat}
theorem cinner_ok(hu:IsF M u1 u2 l1 l2)(hK:∀M',Mem.le M M'→K (.ext (.bool (innF l1 l2))) [] M'):CallS Tryz.prog 83 [.ext (.agg #[u1,u2])] [] M [] K:=by
 refine inlS (cs:=[]) Tryz.mixed Tryz.func83 rfl (by kernel_rfl) 0 rfl rfl ?_
 simp only[Tryz.f83]
 have h1:=hu.n.one
 have h2:=hu.d.one
 have h3:=hu.n.len
 have h4:=hu.n.sl
 unfold innF at hK
 have hf:=A2 h1 h2;refine sF ?_;(repeat' ((first|((with_reducible refine yM ?_);refine kS 126 (cha_ok hu (fun M1 m1=>Stop.mk ?_)))|((with_reducible refine isE 3 (by decide) ?_);refine dR (rP 0 10 [] ((10,[9]) :: (rP 11 4 [] []))) [12,13] [] ?_)|refine oB ?_|fail)<;>refine sF ?_<;>try with_reducible exact tT))<;>try clear hf
 have m1:Mem.le M M1:=m1
 cases hc:chaF l1 l2 with
 | false=>
  rw[hc]at hK
  have hk:=hK M1 m1
  refine wG (A5 h1 h2 h3 h4 hc) ?_
  exact hk
 | true=>
  rw[hc]at hK
  have hu1:=hu.le m1
  rw[←lenI]at hK
  cases hc0:decide ((0:Int)<(l1.length:Int)) with
  | false=>
   rw[hc0]at hK
   have hk:=hK M1 m1
   refine wG (A6 h1 h2 h3 h4 hc hc0) ?_
   exact hk
  | true=>
   rw[hc0]at hK
   have hf:=A6 h1 h2 h3 h4 hc hc0;refine wH ?_;refine kM 62 (whole_ok (fun w1 w2 M2 a1 a2 _ _=>sG ?_));all_goals clear hf
   have a1:Mem.le M1 M2:=a1
   have b2:=a2.n.one
   have b3:=a2.d.one
   have hf:=A6 h1 h2 hc hc0 b2 b3;refine wH ?_;refine kM 26 (fcmp_ok (hu1.le a1) a2 (fun M3 m3=>sG ?_));all_goals clear hf
   have m3:Mem.le M2 M3:=m3
   have hk:=hK M3 (m1.trans (a1.trans m3))
   refine wG (A6 h1 h2 hc hc0 b2 b3) ?_
   exact hk
end
structure SeR (M:Mem) (v:SeV) (l:List Int) (P:List FR) (fl dt d:LP) (u:List Int) (b:List Bool):Prop where
 r:IsL M intV64 v.ur l
 p:IsR M 2 FR.c v.up P
 o:okFL M P
 y:IsF M v.y1 v.y2 fl.1 fl.2
 x:IsF M v.x1 v.x2 dt.1 dt.2
 d:IsF M v.d1 v.d2 d.1 d.2
 lb:l.length<1000000
 pb:P.length<1000000
 q:IsL M intV64 v.uq u
 f:IsL M Value.bool v.uf b
 qb:u.length<1000000
 fb:b.length<1000000
theorem SeR.le{M M':Mem}{v:SeV}{l:List Int}{P:List FR}{fl dt d:LP}{u:List Int}{b:List Bool}(h:SeR M v l P fl dt d u b)(hM:Mem.le M M'):SeR M' v l P fl dt d u b:=
 ⟨h.r.le hM,h.p.le hM,h.o.le hM,h.y.le hM,h.x.le hM,h.d.le hM,h.lb,h.pb,h.q.le hM,h.f.le hM,h.qb,h.fb⟩
theorem SeR.ones{M:Mem}{v:SeV}{l:List Int}{P:List FR}{fl dt d:LP}{u:List Int}{b:List Bool}(h:SeR M v l P fl dt d u b):v.ur.oneCell'=true∧v.up.oneCell'=true∧v.y1.oneCell'=true∧v.y2.oneCell'=true∧v.x1.oneCell'=true∧v.x2.oneCell'=true∧v.d1.oneCell'=true∧v.d2.oneCell'=true∧v.uq.oneCell'=true∧v.uf.oneCell'=true:=
 ⟨h.r.one,h.p.one,h.y.n.one,h.y.d.one,h.x.n.one,h.x.d.one,h.d.n.one,h.d.d.one,h.q.one,h.f.one⟩
def chkC(l:List Int)(P:List FR)(fl dt d:LP)(most:Int):Int:=
 if (newB l P 2).e=0 then (if noiF fl.1 fl.2 dt.1 dt.2 then (if innF d.1 d.2 then (if most<1∨16<most then 3 else 0) else 41) else 1) else (newB l P 2).e
section
variable {M:Mem}{K:AV→Hp→Mem→Prop}{v:SeV}{l u:List Int}{P:List FR}{fl dt d:LP}{b:List Bool}
theorem ccheck_ok(h:SeR M v l P fl dt d u b)(hK:∀M',Mem.le M M'→K (.ext (.int .i64 (chkC l P fl dt d v.most))) [] M'):CallS Tryz.prog 43 [.ext v.v] [] M [] K:=by
 refine inlS (cs:=[]) Tryz.mixed Tryz.func43 rfl (by kernel_rfl) 0 rfl rfl ?_
 simp only[Tryz.f43]
 have oo:=h.ones
 unfold chkC at hK
 have hf:=A2 @SeV.v.eq_1 oo;refine wS ?_;refine kN 81 (pnew_ok 2 h.r h.p h.o h.lb h.pb (prod_few fun x hx=>⟨(h.o x hx).on,(h.o x hx).od⟩) (fun wr ws ww M1 m1 g1 g2 g3=>sG ?_));all_goals clear hf
 have m1:Mem.le M M1:=m1
 have p1:=g1.one
 have p2:=g2.one
 have p3:=g3.one
 by_cases he:(newB l P 2).e=0
 case neg=>
  rw[if_neg he]at hK
  have hk:=hK M1 m1
  have z1:decide ((newB l P 2).e=0)=false:=decide_eq_false he
  refine wG (A5 oo p1 p2 p3 z1) ?_
  exact hk
 rw[if_pos he]at hK
 have h1:=h.le m1
 have hf:=A5 oo p1 p2 p3 he;refine wH ?_;refine kN 82 (noi_ok h1.y h1.x (fun M2 m2=>sG ?_));all_goals clear hf
 have m2:Mem.le M1 M2:=m2
 cases hn:noiF fl.1 fl.2 dt.1 dt.2 with
 | false=>
  rw[hn]at hK
  have hk:=hK M2 (m1.trans m2)
  refine wG (A5 oo p1 p2 p3 hn) ?_
  exact hk
 | true=>
 rw[hn,if_pos rfl]at hK
 have h2:=h1.le m2
 have hf:=A5 oo p1 p2 p3 hn;refine wH ?_;refine kN 83 (cinner_ok h2.d (fun M3 m3=>sG ?_));all_goals clear hf
 have m3:Mem.le M2 M3:=m3
 cases hi:innF d.1 d.2 with
 | false=>
  rw[hi]at hK
  have hk:=hK M3 (m1.trans (m2.trans m3))
  refine wG (A5 oo p1 p2 p3 hi) ?_
  exact hk
 | true=>
 rw[hi,if_pos rfl]at hK
 have hk:=hK M3 (m1.trans (m2.trans m3))
 by_cases z1:v.most<1
 ·rw[if_pos (.inl z1)]at hk
  have z2:decide (v.most<1)=true:=decide_eq_true z1
  refine wG (A6 oo p1 p2 p3 hi z2) ?_
  exact hk
 ·have z2:decide (v.most<1)=false:=decide_eq_false z1
  by_cases z3:16<v.most
  ·rw[if_pos (.inr z3)]at hk
   have z4:decide (16<v.most)=true:=decide_eq_true z3
   refine wG (A7 oo p1 p2 p3 hi z2 z4) ?_
   exact hk
  ·rw[if_neg (fun h=>h.elim z1 z3)]at hk
   have z4:decide (16<v.most)=false:=decide_eq_false z3
   refine wG (A7 oo p1 p2 p3 hi z2 z4) ?_
   exact hk
end
theorem ScI.ones{M:Mem}{w:ScV}{l:List Int}{s X:List Nat}{dl:Nat×Nat}(h:ScI M w l s dl X):w.us.oneCell'=true∧w.uw.oneCell'=true∧w.up.oneCell'=true∧w.ui.oneCell'=true∧w.su.oneCell'=true∧w.e1.oneCell'=true∧w.e2.oneCell'=true:=
 ⟨h.hs.one,h.hw.l.one,h.hp.one,h.hi.one,h.su.one,h.e1.one,h.e2.one⟩
def zNR:NR:=⟨.slice none 0 0,0⟩
section
variable {M:Mem}{K:AV→Hp→Mem→Prop}{v:SeV}{w:ScV}{l:List Int}{P:List FR}{N:List (Nat×Nat)}{f g dl:Nat×Nat}{s X:List Nat}
def upHp(v:SeV)(w:ScV)(W:AV):Hp:=[(6,88,sc0),(3,88,scC v w.us W w.up (.ext w.ui) (.ext w.su) (.ext w.e1) (.ext w.e2))]
def upA(M:Mem)(v:SeV)(w:ScV)(a b:Value)(p:Int):St:={env:=[(9,.ext b),(8,.ext a),(6,.own 6 0),(3,.own 3 0),(1,.ext (.int .i64 p))],hp:=upHp v w (.ext w.uw),M:=M,kb:=0,fx:=[]}
theorem rep_NR:∀n,List.map AV.ext (repN [.slice none 0 0] n)=cE NR.v (List.replicate n zNR)
 | 0=>rfl
 | n+1=>by
  have:=rep_NR n
  simp only[repN,List.map_append,List.replicate_succ,this]
  rfl
def upB(M:Mem)(v:SeV)(w:ScV)(a b:Value)(eff n k:Nat)(D:List NR):St:={env:=[(73,.ext (.int .i64 (k:Int))),(72,.ext (.int .i64 (n:Int))),(71,.ext w.us),(12,.ext w.uw),(10,.ext (.int .i64 (eff:Int))),(9,.ext b),(8,.ext a),(6,.own 6 0),(3,.own 3 0)],hp:=(68,30,cE NR.v (D++List.replicate (n-k) zNR)) :: upHp v w (.slo 68 0 n 1),M:=M,kb:=0,fx:=[]}
theorem set_fillN(D:List NR)(n i:Nat)(hD:D.length=i)(hi:i<n)(x:NR):(D++List.replicate (n-i) zNR).set i x=(D++[x])++List.replicate (n-(i+1)) zNR:=by
 subst hD
 rw[show n-D.length=(n-(D.length+1))+1 by omega,List.replicate_succ,List.set_append_right _ _ (Nat.le_refl _),Nat.sub_self,List.set_cons_zero,List.append_assoc]
 rfl
theorem okNL_fill{M:Mem}{D:List NR}(h:okNL M D)(n:Nat):okNL M (D++List.replicate n zNR):=fun x hx=>by
 rcases List.mem_append.1 hx with hx|hx
 ·exact h x hx
 ·rw[List.eq_of_mem_replicate hx]
  exact ⟨by rw[show zNR.n=0 from rfl,ofN_zero];exact isL_nil _ _ _,sm1000 (by decide)⟩
theorem out2{failed:Bool}{a:Nat×Nat}:(outN failed a).2=a.2:=by unfold outN;split<;>rfl
theorem cE_setN(L:List NR)(k:Nat)(x:NR):(cE NR.v L).set k (.ext x.v)=cE NR.v (L.set k x):=by simp[cE,List.map_set]
theorem out_le{failed:Bool}{f g:Nat×Nat}(hf:OkN f)(hg:OkN g):(outN failed f).1*g.2≤1000000:=
 Nat.le_trans (Nat.mul_le_mul hf.out.le1.1 hg.le1.2) (by decide)
theorem cupdate_ok(p:Int)(failed:Bool)(hv:SeI M v l P N f g dl)(h:ScI M w l s dl X)(hp:setB l p=true)(hx0:0<lsum (afterX l p failed f g X s))(hxs:Sm (lsum (afterX l p failed f g X s)*1000000))
  (hK:∀w' M',Mem.le M M'→ScI M' w' l s dl (afterX l p failed f g X s)→K (.ext (scO v w')) [] M') :
  CallS Tryz.prog 69 [.ext (scO v w),.ext (.int .i64 p),.ext (.bool failed)] [] M [] K:=by
 refine inlS (cs:=[5,15]) Tryz.mixed Tryz.func69 rfl (by kernel_rfl) 0 rfl rfl ?_
 simp only[Tryz.f69]
 have oo:=hv.ones
 have o2:=h.ones
 obtain ⟨f1,f2,f3,f4⟩:=hv.fo.sm
 obtain ⟨g1,g2,g3,g4⟩:=hv.go.sm
 obtain ⟨f5,f6⟩:=hv.fo.le1
 obtain ⟨g5,g6⟩:=hv.go.le1
 have f7:=hv.fo.2.1
 have g7:=hv.go.2.1
 have zy1:IsZ M v.y1 f.1:=⟨hv.y.n,f3⟩
 have zy2:IsZ M v.y2 f.2:=⟨hv.y.d,f4⟩
 have zx1:IsZ M v.x1 g.1:=⟨hv.x.n,g3⟩
 have zx2:IsZ M v.x2 g.2:=⟨hv.x.d,g4⟩
 have sm6:∀{a b:Nat},a≤1000→b≤1000→Sm (a*b):=fun ha hb=>(smC (j:=1) (by decide)).le (Nat.le_trans (Nat.mul_le_mul ha hb) (by decide))
 (try with_reducible refine Fz.of ?_);have hf:=A3 @scO.eq_1 oo o2;refine sF ?_;(repeat' ((first|((with_reducible refine yM ?_);refine kS 64 (cMul zx1 zy2 (sm6 (by omega) (by omega)) (fun a M1 m1 ga _=>Stop.mk ?_)))|((with_reducible refine isE 18 (by decide) ?_);refine dR (rP 0 3 [] (rP 3 3 [2] (rP 7 3 [2,5] (rP 10 3 [2,5,9] ((6,[9,12]) :: (rP 13 3 [] [])))))) (rgL 18 13 []) [] ?_)|refine oB ?_|fail)<;>refine sF ?_<;>try with_reducible exact tT))<;>try clear hf
 have m1:Mem.le M M1:=m1
 have p1:=ga.one
 refine Stop.go ?_
 (try with_reducible refine Fz.of ?_);have hf:=A3 oo o2 p1;refine sF ?_;(repeat' ((first|((with_reducible refine yM ?_);refine kS 64 (cMul (zy1.le m1) (zx2.le m1) (sm6 (by omega) (by omega)) (fun b M2 m2 gb _=>Stop.mk ?_)))|((with_reducible refine isE 18 (by decide) ?_);refine dR (rP 0 3 [] (rP 3 3 [2] (rP 7 3 [2,5] (rP 10 3 [2,5,9] ((6,[9,12]) :: (rP 13 3 [] [])))))) (rgL 18 13 []) [] ?_)|refine oB ?_|fail)<;>refine sF ?_<;>try with_reducible exact tT))<;>try clear hf
 have m2:Mem.le M1 M2:=m2
 have m02:=m1.trans m2
 have p2:=gb.one
 have ga:=ga.le m2
 refine wG (A4 oo o2 p1 p2) ?_
 refine ⟨fun z=>∃M' a b,Mem.le M M'∧IsZ M' a ((outN failed g).1*f.2)∧IsZ M' b ((outN failed f).1*g.2)∧z=upA M' v w a b p,?_,?_⟩
 ·cases failed with
  | true=>
   refine wT (A4 oo o2 p1 p2) ?_
   exact ⟨upA M2 v w a b p,le_sub ⟨rfl,rfl,rfl,rfl,rfl,trivial⟩ ⟨rfl,rfl,trivial⟩ rfl rfl rfl (keepLt0 _),M2,a,b,m02,ga,gb,rfl⟩
  | false=>
   (try with_reducible refine Fz.of ?_);have hf:=A4 oo o2 p1 p2;refine sF ?_;(repeat' ((first|((with_reducible refine yM ?_);refine kS 68 (cSub (zx2.le m02) (zx1.le m02) (by omega) (fun c M3 m3 gc _=>Stop.mk ?_)))|((with_reducible refine isE 34 (by decide) ?_);refine dR (rP 0 3 [] (rP 3 3 [2] (rP 7 3 [2,5] (rP 11 3 [2,5,9] (rP 14 3 [2,5,9,13] (rP 18 3 [2,5,9,13,16] ((6,[9,13,16,20]) :: (10,[13,16,20]) :: (17,[20]) :: (rP 21 3 [] [])))))))) (rgL 34 21 []) [] ?_)|refine oB ?_|fail)<;>refine sF ?_<;>try with_reducible exact tT))<;>try clear hf
   have m3:Mem.le M2 M3:=m3
   have p3:=gc.one
   refine Stop.go ?_
   (try with_reducible refine Fz.of ?_);have hf:=A5 oo o2 p1 p2 p3;refine sF ?_;(repeat' ((first|((with_reducible refine yM ?_);refine kS 64 (cMul gc ((zy2.le m02).le m3) (sm6 (by omega) (by omega)) (fun a' M4 m4 ga' _=>Stop.mk ?_)))|((with_reducible refine isE 34 (by decide) ?_);refine dR (rP 0 3 [] (rP 3 3 [2] (rP 7 3 [2,5] (rP 11 3 [2,5,9] (rP 14 3 [2,5,9,13] (rP 18 3 [2,5,9,13,16] ((6,[9,13,16,20]) :: (10,[13,16,20]) :: (17,[20]) :: (rP 21 3 [] [])))))))) (rgL 34 21 []) [] ?_)|refine oB ?_|fail)<;>refine sF ?_<;>try with_reducible exact tT))<;>try clear hf
   have m4:Mem.le M3 M4:=m4
   have p4:=ga'.one
   refine Stop.go ?_
   (try with_reducible refine Fz.of ?_);have hf:=A6 oo o2 p1 p2 p3 p4;refine sF ?_;(repeat' ((first|((with_reducible refine yM ?_);refine kS 68 (cSub (((zy2.le m02).le m3).le m4) (((zy1.le m02).le m3).le m4) (by omega) (fun d M5 m5 gd _=>Stop.mk ?_)))|((with_reducible refine isE 34 (by decide) ?_);refine dR (rP 0 3 [] (rP 3 3 [2] (rP 7 3 [2,5] (rP 11 3 [2,5,9] (rP 14 3 [2,5,9,13] (rP 18 3 [2,5,9,13,16] ((6,[9,13,16,20]) :: (10,[13,16,20]) :: (17,[20]) :: (rP 21 3 [] [])))))))) (rgL 34 21 []) [] ?_)|refine oB ?_|fail)<;>refine sF ?_<;>try with_reducible exact tT))<;>try clear hf
   have m5:Mem.le M4 M5:=m5
   have p5:=gd.one
   refine Stop.go ?_
   (try with_reducible refine Fz.of ?_);have hf:=A7 oo o2 p1 p2 p3 p4 p5;refine sF ?_;(repeat' ((first|((with_reducible refine yM ?_);refine kS 64 (cMul gd ((((zx2.le m02).le m3).le m4).le m5) (sm6 (by omega) (by omega)) (fun b' M6 m6 gb' _=>Stop.mk ?_)))|((with_reducible refine isE 34 (by decide) ?_);refine dR (rP 0 3 [] (rP 3 3 [2] (rP 7 3 [2,5] (rP 11 3 [2,5,9] (rP 14 3 [2,5,9,13] (rP 18 3 [2,5,9,13,16] ((6,[9,13,16,20]) :: (10,[13,16,20]) :: (17,[20]) :: (rP 21 3 [] [])))))))) (rgL 34 21 []) [] ?_)|refine oB ?_|fail)<;>refine sF ?_<;>try with_reducible exact tT))<;>try clear hf
   have m6:Mem.le M5 M6:=m6
   have p6:=gb'.one
   refine Stop.go ?_
   (try with_reducible refine Fz.of ?_);have hf:=A8 oo o2 p1 p2 p3 p4 p5 p6;refine sF ?_;(repeat' ((first|((with_reducible refine isE 34 (by decide) ?_);refine dR (rP 0 3 [] (rP 3 3 [2] (rP 7 3 [2,5] (rP 11 3 [2,5,9] (rP 14 3 [2,5,9,13] (rP 18 3 [2,5,9,13,16] ((6,[9,13,16,20]) :: (10,[13,16,20]) :: (17,[20]) :: (rP 21 3 [] [])))))))) (rgL 34 21 []) [] ?_)|refine oB ?_|fail)<;>refine sF ?_<;>try with_reducible exact tT))<;>try clear hf
   exact ⟨upA M6 v w a' b' p,le_sub ⟨rfl,rfl,rfl,rfl,rfl,trivial⟩ ⟨rfl,rfl,trivial⟩ rfl rfl rfl (keepLt0 _),M6,a',b',m02.trans (m3.trans (m4.trans (m5.trans m6))),(ga'.le m5).le m6,gb',rfl⟩
 ·clear p1 p2 ga gb m02 m2 m1
  rintro z ⟨M1,a,b,mA,ga,gb,rfl⟩
  have p1:=ga.one
  have p2:=gb.one
  have h1:=h.le mA
  have hv1:=hv.le mA
  obtain ⟨q,rfl,hq8,hq⟩:=setB_nat hv.c hp
  have hlt:=effN_lt (p:=q) hv.c
  have he:effR l (q:Int)=(((effN l q:Nat):Int),0):=by
   unfold effR
   rw[if_pos hv.c,if_pos hp,Int.toNat_natCast]
  have hl8:=chk_len hv.c
  have w2:=h1.hw.l.sl
  have w3:=h1.hw.l.len
  have s2:=h1.hs.sl
  have s3:=h1.hs.len
  have hEl:=h1.hw.len
  have hl:=h1.hl
  have hsb:=h1.sb
  unfold afterX at hK hx0 hxs
  rw[Int.toNat_natCast]at hK hx0 hxs
  generalize hef:effN l q=eff at *
  (try with_reducible refine Fz.of ?_);have hf:=A12 @upA.eq_1 @upHp.eq_1 @scC.eq_1 @sc0.eq_1 @nilE.eq_1 @itup.eq_1 he oo o2 p1 p2 (A4 w2 w3 s2 s3);refine sF ?_;(repeat' ((first|((with_reducible refine yN ?_);refine kS 103 (Effective_ok v.ur l (q:Int) hv1.r (by omega) ?_))|refine oB ?_|fail)<;>refine sF ?_<;>try with_reducible exact tT))<;>try clear hf
  have hn:w.E.length=s.length:=by omega
  rw[hn]at w3 ⊢
  have hml:=mulX_len (eff:=eff) (f:=outN failed f) (g:=outN failed g) hl
  refine ⟨fun z=>∃M' D,Mem.le M1 M'∧okNL M' D∧D.map NR.n=mulX eff (outN failed f) (outN failed g) X s∧z=upB M' v w a b eff s.length s.length D,?_,?_⟩
  ·refine wT (A12 @scC.eq_1 @sc0.eq_1 @nilE.eq_1 @rep_NR oo o2 p1 p2 w2 w3 s2 s3) ?_
   refine ⟨fun m z=>∃M' D k,m=s.length-k∧k≤s.length∧Mem.le M1 M'∧okNL M' D∧D.map NR.n=(mulX eff (outN failed f) (outN failed g) X s).take k∧z=upB M' v w a b eff s.length k D,
    ⟨s.length,upB M1 v w a b eff s.length 0 [],le_sub ⟨rfl,rfl,rfl,rfl,rfl,rfl,rfl,rfl,rfl,trivial⟩ ⟨rfl,rfl,rfl,trivial⟩ rfl rfl rfl (keepLt0 _),⟨M1,[],0,by omega,by omega,Mem.le.refl _,(fun x hx=>by cases hx),rfl,rfl⟩⟩,?_⟩
   rintro m z ⟨M2,D,k,rfl,hk,m2,hD,hDv,rfl⟩
   have hDl:D.length=k:=by have:=congrArg List.length hDv;rw[List.length_map,List.length_take]at this;omega
   have hall:=(okNL_fill hD (s.length-k)).all
   by_cases hlt:k<s.length
   case neg=>
    obtain rfl:k=s.length:=by omega
    have z1:decide ((s.length:Int)<(s.length:Int))=false:=by simp
    rw[List.take_of_length_le (by omega)]at hDv
    refine wT (A12 @upB.eq_1 @upHp.eq_1 @scC.eq_1 @sc0.eq_1 @nilE.eq_1 z1 oo o2 p1 p2 hall (A3 @cE_ment @cE_kill @hasK_nil)) ?_
    exact ⟨upB M2 v w a b eff s.length s.length D,le_sub ⟨rfl,rfl,rfl,rfl,rfl,rfl,rfl,rfl,rfl,trivial⟩ ⟨rfl,rfl,rfl,trivial⟩ rfl rfl rfl (keepLt0 _),M2,D,m2,hD,hDv,rfl⟩
   have h2:=h1.le m2
   have z1:decide ((k:Int)<(s.length:Int))=true:=by rw[decide_eq_true_eq];omega
   have fs:=h2.hs.idx (P:=Tryz.prog) (T:=3) tk3 tz3 (by omega) hlt
   obtain ⟨v4,q1,fw⟩:=h2.hw.get (by omega) (k:=k) (by omega)
   have c4:=q1.one
   have hsx:=h1.sx _ (List.getElem_mem hlt)
   have hkX:k<X.length:=by omega
   have hgx:X.getD k 0=X[k]:=by rw[List.getD_eq_getElem?_getD,List.getElem?_eq_getElem hkX];rfl
   have hmg:=mulX_get (eff:=eff) (f:=outN failed f) (g:=outN failed g) hkX hlt (by omega)
   have htk:(mulX eff (outN failed f) (outN failed g) X s).take (k+1)=(mulX eff (outN failed f) (outN failed g) X s).take k++[(mulX eff (outN failed f) (outN failed g) X s)[k]]:=by rw[List.take_add_one,List.getElem?_eq_getElem (by omega)];rfl
   rw[hmg,←hgx]at htk
   clear hmg hgx
   have hxl:X.getD k 0≤lsum X:=getD_le fun _ hx=>lsum_mem hx
   have wi:IntKind.i64.wrap ((k:Int)+1)=((k+1:Nat):Int):=succ_i (by omega)
   have ba:=bits_and (a:=eff) (b:=s[k]) (by omega) (by omega)
   have hcl:(cE NR.v (D++List.replicate (s.length-k) zNR)).length=s.length:=by rw[cE_len,List.length_append,List.length_replicate];omega
   generalize s[k]=sk at *
   generalize X.getD k 0=xk at *
   by_cases hb:eff &&& sk=0
   ·rw[if_pos hb]at htk
    have d1:decide (((eff &&& sk:Nat):Int)=0)=true:=by rw[hb];rfl
    (try with_reducible refine Fz.of ?_);have hf:=A12 @upB.eq_1 @upHp.eq_1 @scC.eq_1 @sc0.eq_1 @nilE.eq_1 @natV.eq_1 z1 ba d1 fs fw (A12 oo o2 p1 p2 c4 w2 w3 s2 s3 hall hcl (A3 @cE_ment @cE_kill @hasK_nil));refine sF ?_;(repeat' ((first|((with_reducible refine yM ?_);refine kS 64 (cMul q1 (gb.le m2) (h.xs.le (Nat.mul_le_mul hxl (out_le hv.fo hv.go))) (fun w5 M3 m3 g5 _=>Stop.mk ?_)))|((with_reducible refine isE 92 (by decide) ?_);refine dR ((0,[]) :: (1,[]) :: (rP 2 5 [1] [(7,[1,6]),(8,[1]),(9,[]),(10,[])])) (rgL 92 9 []) [] ?_)|refine oB ?_|fail)<;>refine sF ?_<;>try with_reducible exact tT))<;>try clear hf
    have m3:Mem.le M2 M3:=m3
    have c5:=g5.one
    have hset:=cE_setN (D++List.replicate (s.length-k) zNR) k ⟨w5,xk*((outN failed f).1*g.2)⟩
    rw[set_fillN D _ _ hDl hlt]at hset
    have hset:(cE NR.v (D++List.replicate (s.length-k) zNR)).set k (.ext w5)=cE NR.v ((D++[⟨w5,xk*((outN failed f).1*g.2)⟩])++List.replicate (s.length-(k+1)) zNR):=hset
    refine Stop.go ?_
    (try with_reducible refine Fz.of ?_);have hf:=A12 @scC.eq_1 @sc0.eq_1 @nilE.eq_1 @Nat.mul_one hlt hset wi oo o2 p1 p2 (A11 c4 c5 w2 w3 s2 s3 hall hcl @cE_ment @cE_kill @hasK_nil);refine sF ?_;(repeat' ((first|((with_reducible refine isE 92 (by decide) ?_);refine dR ((0,[]) :: (1,[]) :: (rP 2 5 [1] [(7,[1,6]),(8,[1]),(9,[]),(10,[])])) (rgL 92 9 []) [] ?_)|refine oB ?_|fail)<;>refine sF ?_<;>try with_reducible exact tT))<;>try clear hf
    exact ⟨s.length-(k+1),upB M3 v w a b eff s.length (k+1) (D++[⟨w5,xk*((outN failed f).1*g.2)⟩]),by omega,le_sub ⟨rfl,rfl,rfl,rfl,rfl,rfl,rfl,rfl,rfl,trivial⟩ ⟨rfl,rfl,rfl,trivial⟩ rfl rfl rfl (keepLt0 _),M3,_,k+1,rfl,by omega,m2.trans m3,(hD.le m3).snoc g5,by rw[List.map_append,hDv,htk,out2,Nat.mul_assoc];rfl,rfl⟩
   ·rw[if_neg hb]at htk
    have d1:decide (((eff &&& sk:Nat):Int)=0)=false:=decide_eq_false (by omega)
    (try with_reducible refine Fz.of ?_);have hf:=A12 @upB.eq_1 @upHp.eq_1 @scC.eq_1 @sc0.eq_1 @nilE.eq_1 @natV.eq_1 z1 ba d1 fs fw (A12 oo o2 p1 p2 c4 w2 w3 s2 s3 hall hcl (A3 @cE_ment @cE_kill @hasK_nil));refine sF ?_;(repeat' ((first|((with_reducible refine yM ?_);refine kS 64 (cMul q1 (ga.le m2) (h.xs.le (Nat.mul_le_mul hxl (out_le hv.go hv.fo))) (fun w5 M3 m3 g5 _=>Stop.mk ?_)))|((with_reducible refine isE 82 (by decide) ?_);refine dR ((0,[]) :: (1,[]) :: (rP 2 5 [1] [(7,[1,6]),(8,[1]),(9,[]),(10,[])])) (rgL 82 9 []) [] ?_)|refine oB ?_|fail)<;>refine sF ?_<;>try with_reducible exact tT))<;>try clear hf
    have m3:Mem.le M2 M3:=m3
    have c5:=g5.one
    have hset:=cE_setN (D++List.replicate (s.length-k) zNR) k ⟨w5,xk*((outN failed g).1*f.2)⟩
    rw[set_fillN D _ _ hDl hlt]at hset
    have hset:(cE NR.v (D++List.replicate (s.length-k) zNR)).set k (.ext w5)=cE NR.v ((D++[⟨w5,xk*((outN failed g).1*f.2)⟩])++List.replicate (s.length-(k+1)) zNR):=hset
    refine Stop.go ?_
    (try with_reducible refine Fz.of ?_);have hf:=A12 @scC.eq_1 @sc0.eq_1 @nilE.eq_1 @Nat.mul_one hlt hset wi oo o2 p1 p2 (A11 c4 c5 w2 w3 s2 s3 hall hcl @cE_ment @cE_kill @hasK_nil);refine sF ?_;(repeat' ((first|((with_reducible refine isE 82 (by decide) ?_);refine dR ((0,[]) :: (1,[]) :: (rP 2 5 [1] [(7,[1,6]),(8,[1]),(9,[]),(10,[])])) (rgL 82 9 []) [] ?_)|refine oB ?_|fail)<;>refine sF ?_<;>try with_reducible exact tT))<;>try clear hf
    exact ⟨s.length-(k+1),upB M3 v w a b eff s.length (k+1) (D++[⟨w5,xk*((outN failed g).1*f.2)⟩]),by omega,le_sub ⟨rfl,rfl,rfl,rfl,rfl,rfl,rfl,rfl,rfl,trivial⟩ ⟨rfl,rfl,rfl,trivial⟩ rfl rfl rfl (keepLt0 _),M3,_,k+1,rfl,by omega,m2.trans m3,(hD.le m3).snoc g5,by rw[List.map_append,hDv,htk,out2,Nat.mul_assoc];rfl,rfl⟩
  ·rintro z ⟨M2,D,m2,hD,hDv,rfl⟩
   have hDl:D.length=s.length:=by have:=congrArg List.length hDv;rw[List.length_map]at this;omega
   refine Fz.cellI (k:=68) (j:=3) (p0:=12) (n:=s.length) (q:=1) (off:=0) (T:=30) (T0:=88) (D.map NR.v) [(6,.own 6 0),(3,.own 3 0)] [(6,88,sc0)] rfl rfl (by
    show some (_,cE NR.v (D++List.replicate (s.length-s.length) zNR))=_
    rw[Nat.sub_self,List.replicate_zero,List.append_nil];rfl) (by rw[List.length_map];omega) (Nat.zero_le _) (by decide) ⟨rfl,rfl,trivial⟩ (by simp[mentE,AV.ment]) ⟨rfl,trivial⟩ (by simp[mentH,mentL,AV.ment,sc0,nilE]) (keepLt0 _) (fun j hj _=>absurd hj (Nat.not_lt_zero _)) (fun M3 uw m3 huw _=>?_)
   have m3:Mem.le M2 M3:=m3
   rw[List.drop_zero,List.take_of_length_le (by rw[List.length_map];omega)]at huw
   have huw:IsL M3 NR.v uw D:=by unfold IsL;rw[hDl];exact huw
   have q4:=huw.one
   have m13:=m2.trans m3
   have h3:=h1.le m13
   have hW:IsW M3 uw D (mulX eff (outN failed f) (outN failed g) X s):=⟨huw,hD.le m3,hDv⟩
   have hf:=A6 @scC.eq_1 @sc0.eq_1 @nilE.eq_1 oo o2 q4;refine wS ?_;refine yH 105 ?_;refine sF ?_;refine CallS.borBoxM (cs:=scL v ⟨w.us,uw,w.up,w.ui,w.su,w.e1,w.e2,D⟩) (fun U M9 m9 hU=>staA_ok (boxS_of hU) (h3.hs.le m9) (hW.le m9) hml hsb (hxs.le (by omega)) (fun w9 M10 m10 g10 fr=>⟨fun _ _=>rfl,fun M11 m11 k11 _=>sG ?_⟩));all_goals clear hf
   have m9:Mem.le M3 M11:=m11
   have hz9:IsZ M11 w9 (lsum (mulX eff (outN failed f) (outN failed g) X s)):=by
    rw[show totX (mulX eff (outN failed f) (outN failed g) X s) s (fun _=>true)=lsum (mulX eff (outN failed f) (outN failed g) X s) from by unfold totX;rw[filtX_true hml]]at g10
    exact ⟨g10.l.move (fr.le (Mem.le.refl _)) k11,g10.s⟩
   have q9:=hz9.one
   have h9:=h3.le m9
   have hk:=hK ⟨w.us,uw,w.up,w.ui,w9,w.e1,w.e2,D⟩ M11 (mA.trans (m13.trans m9)) ⟨h9.hs,hW.le m9,hml,hsb,h9.s0,h9.sx,h9.hp,h9.hi,hz9,h9.e1,h9.e2,h9.cl,h9.d,hx0,hxs⟩
   refine wG (A8 @scC.eq_1 @sc0.eq_1 @nilE.eq_1 @scL_ext oo o2 q4 q9) ?_
   exact hk
end
section
variable {M:Mem}{K:AV→Hp→Mem→Prop}
end
section
variable {M:Mem}{K:AV→Hp→Mem→Prop}{ur us uw x1 x2 y1 y2:Value}{l:List Int}{s X:List Nat}{b:Nat}{f g:Nat×Nat}
end
theorem afterX_len{l:List Int}{p:Int}{b:Bool}{f g:Nat×Nat}{X s:List Nat}(h:X.length=s.length):(afterX l p b f g X s).length=s.length:=mulX_len h
theorem pickS_in(f:Nat→Nat):∀(L:List Nat) (s b:Nat),pickS f L s b=s∨pickS f L s b∈L
 | [],_,_=>.inl rfl
 | p :: r,s,b=>by
  rw[pickS]
  split
  ·rcases pickS_in f r p (f p) with h|h
   ·rw[h];exact .inr (List.mem_cons_self ..)
   ·exact .inr (List.mem_cons_of_mem _ h)
  ·rcases pickS_in f r s b with h|h
   ·exact .inl h
   ·exact .inr (List.mem_cons_of_mem _ h)
theorem setB_split{l:List Int}(hc:chkL l=true)(X s:List Nat):setB l ((splitX l X s:Nat):Int)=true:=by
 rcases pickS_in (dP l X s) (ivN l.length) 0 (2*lsum X) with h|h
 ·unfold splitX
  rw[h]
  exact setB_of (by omega) (by have:=Nat.pow_pos (n:=l.length) (show 0<2 by decide);omega)
 ·exact setB_iv hc h
theorem nextX_set{l:List Int}{s X:List Nat}{dl:Nat×Nat}{most:Int}{n:Nat}{p:Int}(hc:chkL l=true)(h:nextX l s dl most X n=(p,0)):setB l p=true∧p=((splitX l X s:Nat):Int)∧(n:Int)<most:=by
 unfold nextX at h
 split at h
 ·cases h
 ·split at h
  ·cases h
  ·rename_i h1 h2
   have:=(Prod.mk.injEq ..▸h:((splitX l X s:Nat):Int)=p∧(0:Int)=0).1
   subst this
   exact ⟨setB_split hc X s,rfl,by omega⟩
theorem start_px{l:List Int}{N:List (Nat×Nat)}(hc:chkL l=true)(hN:∀p∈N,OkN p)(hl:N.length=l.length):PX (setsL l 2) (startX l N) b0:=by
 obtain ⟨h1,h2,_⟩:=start_sum hc hN hl
 refine ⟨by unfold startX;rw[List.length_map],fun x hx=>?_,h2,h1⟩
 unfold startX at hx
 obtain ⟨s,_,rfl⟩:=List.mem_map.1 hx
 exact pn_pos (facN_ok s N 0 hN)
section
variable {M:Mem}{K:AV→Hp→Mem→Prop}{v:SeV}{l u:List Int}{P:List FR}{N:List (Nat×Nat)}{f g dl:Nat×Nat}{fl dt d:LP}{b:List Bool}
def sc0V:Value:=.agg #[.slice none 0 0,.slice none 0 0,.slice none 0 0,.slice none 0 0,.slice none 0 0,.slice none 0 0,.slice none 0 0,.slice none 0 0,.int .i64 0,.slice none 0 0,.slice none 0 0,.slice none 0 0,.slice none 0 0,.slice none 0 0,.slice none 0 0,.slice none 0 0,.slice none 0 0,.slice none 0 0]
def rpSt(M:Mem)(v:SeV)(w:ScV)(n i:Nat):St:={env:=[(35,.ext (.int .i64 (i:Int))),(34,.ext (.int .i64 (n:Int))),(33,.ext v.uq),(4,.own 4 0),(3,.ext (.bool false)),(2,.own 2 0),(1,.own 1 0)],hp:=[(4,88,scC v w.us (.ext w.uw) w.up (.ext w.ui) (.ext w.su) (.ext w.e1) (.ext w.e2)),(2,88,sc0),(1,37,v.c)],M:=M,kb:=0,fx:=[]}
theorem creplay_bad(h:SeR M v l P fl dt d u b)(hb:chkC l P fl dt d v.most≠0∨u.length≠b.length∨v.most<(u.length:Int))(hK:∀M',Mem.le M M'→K (.ext (.tuple #[sc0V,.bool false])) [] M') :
  CallS Tryz.prog 49 [.ext v.v] [] M [] K:=by
 refine inlS (cs:=[]) Tryz.mixed Tryz.func49 rfl (by kernel_rfl) 0 rfl rfl ?_
 simp only[Tryz.f49]
 have oo:=h.ones
 have n1:=h.q.len
 have s1:=h.q.sl
 have n2:=h.f.len
 have s2:=h.f.sl
 have hf:=A2 @SeV.v.eq_1 oo;refine wS ?_;refine kN 43 (ccheck_ok h (fun M1 m1=>sG ?_));all_goals clear hf
 have hk:=hK M1 m1
 unfold sc0V at hk
 by_cases z1:chkC l P fl dt d v.most=0
 case neg=>
  have d1:decide (chkC l P fl dt d v.most=0)=false:=decide_eq_false z1
  refine wG (A6 oo d1 n1 s1 n2 s2) ?_
  exact hk
 by_cases z2:(u.length:Int)=(b.length:Int)
 case neg=>
  have d2:decide ((u.length:Int)=(b.length:Int))=false:=decide_eq_false z2
  refine wG (A7 oo z1 d2 n1 s1 n2 s2) ?_
  exact hk
 have z3:v.most<(u.length:Int):=by
  rcases hb with hb|hb|hb
  ·exact absurd z1 hb
  ·omega
  ·exact hb
 have d3:decide (v.most<(u.length:Int))=true:=decide_eq_true z3
 have d2:decide ((u.length:Int)=(b.length:Int))=true:=decide_eq_true z2
 refine wG (A8 oo z1 d2 d3 n1 s1 n2 s2) ?_
 exact hk
theorem creplay_ok(h:SeR M v l P fl dt d u b)(hv:SeI M v l P N f g dl)(z1:chkC l P fl dt d v.most=0)(z2:u.length=b.length)(z3:(u.length:Int)≤v.most)(hm:v.most≤16)
  (hK0:playX l (setsL l 2) f g dl v.most (u.zip b) 0 (startX l N)=none→∀M',Mem.le M M'→K (.ext (.tuple #[sc0V,.bool false])) [] M')
  (hK:∀X w M',playX l (setsL l 2) f g dl v.most (u.zip b) 0 (startX l N)=some X→Mem.le M M'→ScI M' w l (setsL l 2) dl X→PX (setsL l 2) X (b0*1000000^u.length)→K (.ext (.tuple #[scO v w,.bool true])) [] M') :
  CallS Tryz.prog 49 [.ext v.v] [] M [] K:=by
 refine inlS (cs:=[]) Tryz.mixed Tryz.func49 rfl (by kernel_rfl) 0 rfl rfl ?_
 simp only[Tryz.f49]
 have oo:=h.ones
 have n1:=h.q.len
 have s1:=h.q.sl
 have n2:=h.f.len
 have s2:=h.f.sl
 have hf:=A2 @SeV.v.eq_1 oo;refine wS ?_;refine kN 43 (ccheck_ok h (fun M1 m1=>sG ?_));all_goals clear hf
 have m1:Mem.le M M1:=m1
 have d3:decide (v.most<(u.length:Int))=false:=decide_eq_false (by omega)
 have d2:decide ((u.length:Int)=(b.length:Int))=true:=decide_eq_true (by omega)
 have hf:=A8 oo z1 d2 d3 n1 s1 n2 s2;refine wH ?_;refine kN 63 (begin_ok (hv.le m1) (fun w M2 m2 hw=>sG ?_));all_goals clear hf
 have m2:Mem.le M1 M2:=m2
 have m02:=m1.trans m2
 have o2:=hw.ones
 refine wG (A7 @scO.eq_1 oo o2 n1 s1 n2 s2) ?_
 refine ⟨fun m z=>∃M' w X i,m=u.length-i∧i≤u.length∧Mem.le M M'∧ScI M' w l (setsL l 2) dl X∧PX (setsL l 2) X (b0*1000000^i)∧playX l (setsL l 2) f g dl v.most (u.zip b) 0 (startX l N)=playX l (setsL l 2) f g dl v.most ((u.zip b).drop i) i X∧z=rpSt M' v w u.length i,
  ⟨u.length,rpSt M2 v w u.length 0,le_sub ⟨rfl,rfl,rfl,rfl,rfl,rfl,rfl,trivial⟩ ⟨rfl,rfl,rfl,trivial⟩ rfl rfl rfl (keepLt0 _),⟨M2,w,_,0,by omega,by omega,m02,hw,by rw[Nat.pow_zero,Nat.mul_one];exact start_px hv.c hv.no hv.nl,rfl,rfl⟩⟩,?_⟩
 clear o2 hw m02 m2 m1
 rintro m z ⟨M3,w,X,i,rfl,hi,m3,hw,hpx,hpl,rfl⟩
 have o2:=hw.ones
 by_cases hlt:i<u.length
 case neg=>
  obtain rfl:i=u.length:=by omega
  have y1:decide ((u.length:Int)<(u.length:Int))=false:=by simp
  rw[List.drop_of_length_le (by rw[List.length_zip];omega)]at hpl
  have hk:=hK X w M3 hpl m3 hw hpx
  unfold scO at hk
  refine wT (A8 @rpSt.eq_1 @scC.eq_1 @sc0.eq_1 @nilE.eq_1 @SeV.c.eq_1 y1 oo o2) ?_
  exact hk
 have y1:decide ((i:Int)<(u.length:Int))=true:=by rw[decide_eq_true_eq];omega
 have wi:IntKind.i64.wrap ((i:Int)+1)=((i+1:Nat):Int):=succ_i (by have:=h.qb;omega)
 have fq:=(h.q.le m3).idx (P:=Tryz.prog) (T:=3) tk3 tz3 (by have:=h.qb;omega) hlt
 have hzd:(u.zip b).drop i=(u[i],b[i]'(by omega)) :: (u.zip b).drop (i+1):=by
  rw[List.drop_eq_getElem_cons (by rw[List.length_zip];omega),List.getElem_zip]
 rw[hzd,playX]at hpl
 have hbb:i<b.length:=by omega
 have ffb:=h.f.le m3
 have hf:=A12 @rpSt.eq_1 @scC.eq_1 @sc0.eq_1 @nilE.eq_1 @SeV.c.eq_1 @intV64.eq_1 y1 fq n1 s1 oo o2;refine wS ?_;refine yH 52 ?_;refine sF ?_;refine CallS.borBox (cs:=scL v w) [.int .i64 (i:Int)] (fun U M9 m9 hU=>snext_ok i (boxS_of hU) (hw.le m9) (by have:=h.qb;omega) (fun M10 m10=>⟨fun _ _=>rfl,fun M4 m4 _ _=>sG ?_⟩));all_goals clear hf
 have m4:Mem.le M3 M4:=m4
 have m04:=m3.trans m4
 by_cases e0:(nextX l (setsL l 2) dl v.most X i).2=0
 case neg=>
  rw[if_neg (fun hh=>e0 (by rw[hh]))]at hpl
  have hk:=hK0 hpl M4 m04
  unfold sc0V at hk
  have y2:decide ((nextX l (setsL l 2) dl v.most X i).2=0)=false:=decide_eq_false e0
  refine wG (A11 @scC.eq_1 @sc0.eq_1 @nilE.eq_1 @SeV.c.eq_1 @scL_ext y2 fq n1 s1 oo o2) ?_
  exact hk
 by_cases e1:(nextX l (setsL l 2) dl v.most X i).1=u[i]
 case neg=>
  rw[if_neg (fun hh=>e1 (by rw[hh]))]at hpl
  have hk:=hK0 hpl M4 m04
  unfold sc0V at hk
  have y2:decide ((nextX l (setsL l 2) dl v.most X i).1=u[i])=false:=decide_eq_false e1
  refine wG (A12 @scC.eq_1 @sc0.eq_1 @nilE.eq_1 @SeV.c.eq_1 @scL_ext e0 y2 fq n1 s1 oo o2) ?_
  exact hk
 have hnx:nextX l (setsL l 2) dl v.most X i=(u[i],0):=Prod.ext e1 e0
 rw[if_pos hnx]at hpl
 obtain ⟨hset,_,_⟩:=nextX_set hv.c hnx
 have hpx1:=hpx.one (l:=l) hv.fo hv.go u[i] (b[i]'hbb)
 rw[smC_succ]at hpx1
 have fb:=(h.f.le m04).idx (P:=Tryz.prog) (T:=4) tk4 tz4 (by have:=h.fb;omega) hbb
 have hs17:Sm (lsum (afterX l u[i] (b[i]'hbb) f g X (setsL l 2))*1000000):=(smC (j:=i+2) (by omega)).le (by
  rw[←smC_succ]
  exact Nat.mul_le_mul_right _ hpx1.le)
 have y2:decide ((nextX l (setsL l 2) dl v.most X i).1=u[i])=true:=decide_eq_true e1
 have n3:=h.f.len
 rw[←z2]at n3 fb
 refine Stop.go ?_
 have hf:=A12 @scC.eq_1 @sc0.eq_1 @nilE.eq_1 @SeV.c.eq_1 @scL_ext e0 y2 fq fb n1 s1 (A4 n3 s2 oo o2);refine sF ?_;(repeat' ((first|((with_reducible refine yM ?_);refine kS 69 (cupdate_ok u[i] (b[i]'hbb) (hv.le m04) (hw.le m4) hset hpx1.sum hs17 (fun w' M5 m5 hw'=>Stop.mk ?_)))|((with_reducible refine isE 53 (by decide) ?_);refine dR ((0,[]) :: (rP 1 3 [0] [(4,[0,3]),(5,[0]),(6,[0]),(7,[]),(8,[])])) (rgL 53 7 []) [] ?_)|refine oB ?_|fail)<;>refine sF ?_<;>try with_reducible exact tT))<;>try clear hf
 have m5:Mem.le M4 M5:=m5
 have o3:=hw'.ones
 refine Stop.go ?_
 have hf:=A9 @scC.eq_1 @sc0.eq_1 @nilE.eq_1 @SeV.c.eq_1 @scO.eq_1 wi oo o2 o3;refine sF ?_;(repeat' ((first|((with_reducible refine isE 53 (by decide) ?_);refine dR ((0,[]) :: (rP 1 3 [0] [(4,[0,3]),(5,[0]),(6,[0]),(7,[]),(8,[])])) (rgL 53 7 []) [] ?_)|refine oB ?_|fail)<;>refine sF ?_<;>try with_reducible exact tT))<;>try clear hf
 exact ⟨u.length-(i+1),rpSt M5 v w' u.length (i+1),by omega,le_sub ⟨rfl,rfl,rfl,rfl,rfl,rfl,rfl,trivial⟩ ⟨rfl,rfl,rfl,trivial⟩ rfl rfl rfl (keepLt0 _),M5,w',_,i+1,rfl,by omega,m04.trans m5,hw',hpx1,hpl,rfl⟩
end
def numL(a:LP):Nat×Nat:=(valN a.1,valN a.2)
def numF(x:FR):Nat×Nat:=(valN x.l1,valN x.l2)
theorem numL_opN(p:Nat×Nat):numL (opN p)=p:=by
 unfold numL opN
 rw[valN_ofN,valN_ofN]
theorem cha_num{a b:List Nat}(ha:okN a)(hb:okN b)(h:chaF a b=true):∃n d,a=ofN n∧b=ofN d∧0<d∧Nat.gcd n d=1∧d≤1000∧chkF a b=true:=by
 unfold chaF at h
 simp only[Bool.and_eq_true]at h
 obtain ⟨hc,_,h1000⟩:=h
 obtain ⟨e1,e2,b1,b2,hd,hg⟩:=chkF_ok ha hb hc
 refine ⟨valN a,valN b,e1,e2,hd,hg,?_,hc⟩
 unfold cmpR at h1000
 have hcb:chkN b=true:=by
  unfold chkF at hc
  simp only[Bool.and_eq_true]at hc
  exact hc.1.1.2
 rw[hcb,chkN_1000,Bool.and_self,if_pos rfl,valN_ofN]at h1000
 exact cmpN_le1 h1000
theorem noi_okn{a b c d:List Nat}(ha:okN a)(hb:okN b)(hc:okN c)(hd:okN d)(h:noiF a b c d=true):∃p q:Nat×Nat,OkN p∧OkN q∧(a,b)=opN p∧(c,d)=opN q∧p.1*q.2<q.1*p.2:=by
 unfold noiF at h
 simp only[Bool.and_eq_true]at h
 obtain ⟨h1,h2,h3,h4,h5⟩:=h
 obtain ⟨n1,d1,rfl,rfl,p1,g1,l1,c1⟩:=cha_num ha hb h1
 obtain ⟨n2,d2,rfl,rfl,p2,g2,l2,c2⟩:=cha_num hc hd h2
 unfold cmpF at h4 h5
 rw[c1,c2,Bool.and_self,if_pos rfl,valN_ofN,valN_ofN,valN_ofN,valN_ofN]at h4
 rw[c2,chkF_11,Bool.and_self,if_pos rfl,valN_ofN,valN_ofN,valN_ofN,Nat.mul_one,Nat.one_mul]at h5
 have h4:=cmpN_lt1 h4
 have h5:=cmpN_lt1 h5
 rw[decide_eq_true_eq]at h3
 have hn1:0<n1:=by
  rcases Nat.eq_zero_or_pos n1 with e|e
  ·rw[e,ofN_zero]at h3;exact absurd h3 (Nat.lt_irrefl 0)
  ·exact e
 have hlt:n1<d1:=by
  have h6:n2*d1<d2*d1:=Nat.mul_lt_mul_of_pos_right h5 p1
  have h7:n1*d2<d1*d2:=by rw[Nat.mul_comm d1];omega
  exact Nat.lt_of_mul_lt_mul_right h7
 have hn2:0<n2:=by
  rcases Nat.eq_zero_or_pos n2 with e|e
  ·rw[e,Nat.zero_mul]at h4;omega
  ·exact e
 exact ⟨(n1,d1),(n2,d2),⟨hn1,hlt,l1,g1⟩,⟨hn2,h5,l2,g2⟩,rfl,rfl,h4⟩
theorem map_num{P:List FR}{N:List (Nat×Nat)}(h:P.map prV=N.map opN):P.map numF=N:=by
 have h2:=congrArg (fun t=>t.map numL) h
 simp only[List.map_map]at h2
 have e1:(numL ∘ prV)=numF:=funext fun x=>rfl
 have e2:(numL ∘ opN)=id:=funext numL_opN
 rw[e1,e2,List.map_id]at h2
 exact h2
theorem SeR.ok{M:Mem}{v:SeV}{l:List Int}{P:List FR}{fl dt d:LP}{u:List Int}{b:List Bool}(h:SeR M v l P fl dt d u b)(hc:chkC l P fl dt d v.most=0) :
  SeI M v l P (P.map numF) (numL fl) (numL dt) (numL d)∧1≤v.most∧v.most≤16∧(numL fl).1*(numL dt).2<(numL dt).1*(numL fl).2:=by
 unfold chkC at hc
 by_cases he:(newB l P 2).e=0
 case neg=>rw[if_neg he]at hc;exact absurd hc he
 rw[if_pos he]at hc
 cases hn:noiF fl.1 fl.2 dt.1 dt.2 with
 | false=>rw[hn]at hc;simp at hc
 | true=>
 rw[hn,if_pos rfl]at hc
 cases hi:innF d.1 d.2 with
 | false=>rw[hi]at hc;simp at hc
 | true=>
 rw[hi,if_pos rfl]at hc
 have hm:¬(v.most<1∨16<v.most):=fun hh=>by rw[if_pos hh]at hc;cases hc
 unfold newB at he
 by_cases hs:setsE l 2=0
 case neg=>rw[if_neg hs]at he;exact absurd he hs
 rw[if_pos hs]at he
 by_cases hl:P.length=l.length
 case neg=>rw[if_neg hl]at he;cases he
 rw[if_pos hl]at he
 cases ha:P.all (fun x=>innF x.l1 x.l2) with
 | false=>rw[ha]at he;cases he
 | true=>
 have hcl:chkL l=true:=by
  unfold setsE at hs
  by_cases hc:chkL l=true
  ·exact hc
  ·rw[if_neg hc]at hs;cases hs
 obtain ⟨N,hN,hNo⟩:=all_okn (fun x hx=>⟨(h.o x hx).on,(h.o x hx).od⟩) ha
 obtain ⟨p,q,hp,hq,e1,e2,hpq⟩:=noi_okn h.y.on h.y.od h.x.on h.x.od hn
 obtain ⟨r,hr,e3⟩:=inn_okn h.d.on h.d.od hi
 have e1:fl=opN p:=e1
 have e2:dt=opN q:=e2
 have e3:d=opN r:=e3
 subst e1 e2 e3
 rw[numL_opN,numL_opN,numL_opN,map_num hN]
 exact ⟨⟨h.r,hcl,h.p,h.o,hN,hNo,by have:=congrArg List.length hN;rw[List.length_map,List.length_map]at this;omega,h.y,h.x,h.d,hp,hq,hr,h.q.one,h.f.one⟩,by omega,by omega,hpq⟩
def playS(l:List Int)(P:List FR)(fl dt d:LP)(most:Int)(u:List Int)(b:List Bool):Option (List Nat):=
 if chkC l P fl dt d most=0∧u.length=b.length∧(u.length:Int)≤most then playX l (setsL l 2) (numL fl) (numL dt) (numL d) most (u.zip b) 0 (startX l (P.map numF)) else none
section
variable {M:Mem}{K:AV→Hp→Mem→Prop}{v:SeV}{l u:List Int}{P:List FR}{fl dt d:LP}{b:List Bool}
theorem creplay_all(h:SeR M v l P fl dt d u b)
  (hK0:playS l P fl dt d v.most u b=none→∀M',Mem.le M M'→K (.ext (.tuple #[sc0V,.bool false])) [] M')
  (hK:∀X w M',playS l P fl dt d v.most u b=some X→Mem.le M M'→ScI M' w l (setsL l 2) (numL d) X→SeI M' v l P (P.map numF) (numL fl) (numL dt) (numL d)→PX (setsL l 2) X (b0*1000000^u.length)→K (.ext (.tuple #[scO v w,.bool true])) [] M') :
  CallS Tryz.prog 49 [.ext v.v] [] M [] K:=by
 unfold playS at hK0 hK
 by_cases hh:chkC l P fl dt d v.most=0∧u.length=b.length∧(u.length:Int)≤v.most
 ·rw[if_pos hh]at hK0 hK
  obtain ⟨z1,z2,z3⟩:=hh
  obtain ⟨hv,_,hm,_⟩:=h.ok z1
  exact creplay_ok h hv z1 z2 z3 hm hK0 fun X w M' g1 g2 g3 g4=>hK X w M' g1 g2 g3 (hv.le g2) g4
 ·rw[if_neg hh]at hK0
  refine creplay_bad h ?_ (hK0 rfl)
  by_cases z1:chkC l P fl dt d v.most=0
  ·by_cases z2:u.length=b.length
   ·exact .inr (.inr (by have:¬(u.length:Int)≤v.most:=fun z3=>hh ⟨z1,z2,z3⟩;omega))
   ·exact .inr (.inl z2)
  ·exact .inl z1
theorem cNext_ok(h:SeR M v l P fl dt d u b)(hK0:playS l P fl dt d v.most u b=none→∀M',Mem.le M M'→K (.ext (.tuple #[.int .i64 0,.int .i64 1])) [] M')
  (hK:∀X M',playS l P fl dt d v.most u b=some X→Mem.le M M'→K (.ext (.tuple #[.int .i64 (nextX l (setsL l 2) (numL d) v.most X u.length).1,.int .i64 (nextX l (setsL l 2) (numL d) v.most X u.length).2])) [] M') :
  CallS Tryz.prog 22 [.ext v.v] [] M [] K:=by
 refine inlS (cs:=[]) Tryz.mixed Tryz.func22 rfl (by kernel_rfl) 0 rfl rfl ?_
 simp only[Tryz.f22]
 have oo:=h.ones
 have n1:=h.q.len
 have s1:=h.q.sl
 have hf:=A2 @SeV.v.eq_1 oo;refine wS ?_;refine kN 49 (creplay_all h (fun hp M1 m1=>sG ?_) (fun X w M1 hp m1 hw hv hpx=>sG ?_));all_goals clear hf
 ·have hk:=hK0 hp M1 m1
  refine wG (A2 @sc0V.eq_1 oo) ?_
  exact hk
 ·have m1:Mem.le M M1:=m1
  have o2:=hw.ones
  have hf:=A5 @scO.eq_1 n1 s1 oo o2;refine wH ?_;refine yH 52 ?_;refine sF ?_;refine CallS.borBox (cs:=scL v w) [.int .i64 (u.length:Int)] (fun U M9 m9 hU=>snext_ok u.length (boxS_of hU) (hw.le m9) h.qb (fun M10 m10=>⟨fun _ _=>rfl,fun M4 m4 _ _=>sG ?_⟩));all_goals clear hf
  have hk:=hK X M4 hp (m1.trans m4)
  refine wG (A3 @scL_ext oo o2) ?_
  exact hk
theorem cFind_ok(h:SeR M v l P fl dt d u b)(hK0:playS l P fl dt d v.most u b=none→∀M',Mem.le M M'→K (.ext (.tuple #[.agg #[.bool false,.int .i64 0,.slice none 0 0,.slice none 0 0],.int .i64 1])) [] M')
  (hK:∀X w1 w2 M',playS l P fl dt d v.most u b=some X→Mem.le M M'→IsL M' u32V w1 (ofN (red (topX X) (lsum X)).1)→IsL M' u32V w2 (ofN (red (topX X) (lsum X)).2)→K (.ext (.tuple #[.agg #[.bool (decX (numL d) X),.int .i64 (((setsL l 2).getD (bestN X X.length) 0:Nat):Int),w1,w2],.int .i64 0])) [] M') :
  CallS Tryz.prog 25 [.ext v.v] [] M [] K:=by
 refine inlS (cs:=[]) Tryz.mixed Tryz.func25 rfl (by kernel_rfl) 0 rfl rfl ?_
 simp only[Tryz.f25]
 have oo:=h.ones
 have hf:=A2 @SeV.v.eq_1 oo;refine wS ?_;refine kN 49 (creplay_all h (fun hp M1 m1=>sG ?_) (fun X w M1 hp m1 hw hv hpx=>sG ?_));all_goals clear hf
 ·have hk:=hK0 hp M1 m1
  refine wG (A2 @sc0V.eq_1 oo) ?_
  exact hk
 ·have m1:Mem.le M M1:=m1
  have o2:=hw.ones
  have hf:=A3 @scO.eq_1 oo o2;refine wH ?_;refine yH 54 ?_;refine sF ?_;refine CallS.borBox (cs:=scL v w) [] (fun U M9 m9 hU=>sfind_ok (boxS_of hU) (hw.le m9) (fun w1 w2 M10 m10 g1 g2 r1 r2=>⟨fun _ _=>rfl,fun M4 m4 k4 _=>sG ?_⟩));all_goals clear hf
  have g1:IsL M4 u32V w1 (ofN (red (topX X) (lsum X)).1):=g1.move r1 k4
  have g2:IsL M4 u32V w2 (ofN (red (topX X) (lsum X)).2):=g2.move r2 k4
  have q1:=g1.one
  have q2:=g2.one
  have hk:=hK X w1 w2 M4 hp (m1.trans m4) g1 g2
  refine wG (A5 @scL_ext oo o2 q1 q2) ?_
  exact hk
end
section
variable {M:Mem}{K:AV→Hp→Mem→Prop}{v:SeV}{l u:List Int}{P:List FR}{fl dt d:LP}{b:List Bool}
def beHp(v:SeV)(w:ScV)(cr W:AV):Hp:=[(6,53,[cr,.ext w.us,W]),(4,88,scC v w.us (.ext w.uw) w.up (.ext w.ui) (.ext w.su) (.ext w.e1) (.ext w.e2)),(2,53,[nilE,nilE,nilE])]
def beSt(M:Mem)(v:SeV)(w:ScV)(cr:Value)(n i:Nat)(D:List FR):St:={env:=[(30,.ext (.int .i64 (i:Int))),(29,.ext (.int .i64 (n:Int))),(28,.ext w.uw),(6,.own 6 0),(4,.own 4 0),(3,.ext (.int .i64 0)),(2,.own 2 0)],hp:=(49,32,frC D) :: beHp v w (.ext cr) (.slo 49 0 i 2),M:=M,kb:=0,fx:=[]}
theorem cBelief_ok(h:SeR M v l P fl dt d u b)(hK0:playS l P fl dt d v.most u b=none→∀M',Mem.le M M'→K (.ext (.tuple #[.agg #[.slice none 0 0,.slice none 0 0,.slice none 0 0],.int .i64 1])) [] M')
  (hK:∀X wr ws ww M',playS l P fl dt d v.most u b=some X→Mem.le M M'→IsB M' wr ws ww l (setsL l 2) (qX X)→PX (setsL l 2) X (b0*1000000^u.length)→SeI M' v l P (P.map numF) (numL fl) (numL dt) (numL d)→K (.ext (.tuple #[.agg #[wr,ws,ww],.int .i64 0])) [] M') :
  CallS Tryz.prog 21 [.ext v.v] [] M [] K:=by
 refine inlS (cs:=[13]) Tryz.mixed Tryz.func21 rfl (by kernel_rfl) 0 rfl rfl ?_
 simp only[Tryz.f21]
 have oo:=h.ones
 have hf:=A2 @SeV.v.eq_1 oo;refine wS ?_;refine kN 49 (creplay_all h (fun hp M1 m1=>sG ?_) (fun X w M1 hp m1 hw hv hpx=>sG ?_));all_goals clear hf
 ·have hk:=hK0 hp M1 m1
  refine wG (A2 @sc0V.eq_1 oo) ?_
  exact hk
 have m1:Mem.le M M1:=m1
 have o2:=hw.ones
 refine Stop.go ?_
 (try with_reducible refine Fz.of ?_);have hf:=A3 @scO.eq_1 oo o2;refine sF ?_;(repeat' ((first|((with_reducible refine yM ?_);refine kS 50 (cloneI_ok v.ur l hv.r (by have:=h.lb;omega) (fun cr M2 m2 g2 _=>Stop.mk ?_)))|((with_reducible refine isE 19 (by decide) ?_);refine dR (rP 0 3 [] [(5,[2]),(6,[2]),(8,[2,6]),(3,[6]),(4,[6]),(7,[]),(9,[])]) (6 :: (rgL 19 8 [])) [] ?_)|refine oB ?_|fail)<;>refine sF ?_<;>try with_reducible exact tT))<;>try clear hf
 have m2:Mem.le M1 M2:=m2
 have p2:=g2.one
 have m02:=m1.trans m2
 have w2:=hw.hw.l.sl
 have w3:=hw.hw.l.len
 rw[hw.hw.len]at w3
 have hXb:X.length<1000000:=by have:=hw.hl;have:=hw.sb;omega
 refine Stop.go ?_
 (try with_reducible refine Fz.of ?_);have hf:=A5 oo o2 p2 w2 w3;refine sF ?_;(repeat' ((first|((with_reducible refine isE 19 (by decide) ?_);refine dR (rP 0 3 [] [(5,[2]),(6,[2]),(8,[2,6]),(3,[6]),(4,[6]),(7,[]),(9,[])]) (6 :: (rgL 19 8 [])) [] ?_)|refine oB ?_|fail)<;>refine sF ?_<;>try with_reducible exact tT))<;>try clear hf
 refine ⟨fun z=>∃M' D,Mem.le M2 M'∧okFL M' D∧D.map prV=(qX X).map (fun q=>(ofN q.1,ofN q.2))∧z=beSt M' v w cr X.length X.length D,?_,?_⟩
 ·refine wT (A5 oo o2 p2 w2 w3) ?_
  refine ⟨fun m z=>∃M' D i,m=X.length-i∧i≤X.length∧Mem.le M2 M'∧okFL M' D∧D.map prV=((qX X).take i).map (fun q=>(ofN q.1,ofN q.2))∧z=beSt M' v w cr X.length i D,
   ⟨X.length,beSt M2 v w cr X.length 0 [],(le_nilH 6 2 49 32 53 [.ext cr,.ext w.us,nilE] 2 rfl rfl (.inl rfl)).trans (le_sub ⟨rfl,rfl,rfl,rfl,rfl,rfl,rfl,trivial⟩ ⟨rfl,rfl,rfl,rfl,trivial⟩ rfl rfl rfl (keepLt0 _)),⟨M2,[],0,by omega,by omega,Mem.le.refl _,(fun x hx=>by cases hx),rfl,rfl⟩⟩,?_⟩
  rintro m z ⟨M3,D,i,rfl,hi,m3,hD,hDv,rfl⟩
  have hql:(qX X).length=X.length:=by unfold qX;rw[List.length_map]
  have hDl:D.length=i:=by have:=congrArg List.length hDv;rw[List.length_map,List.length_map,List.length_take]at this;omega
  have hcl:(frC D).length=i*2:=by rw[frC_len,hDl]
  by_cases hlt:i<X.length
  case neg=>
   obtain rfl:i=X.length:=by omega
   have y1:decide ((X.length:Int)<(X.length:Int))=false:=by simp
   rw[List.take_of_length_le (by omega)]at hDv
   refine wT (A11 @beSt.eq_1 @beHp.eq_1 @scC.eq_1 @nilE.eq_1 y1 oo o2 p2 @frC_ment @frC_kill @hasK_nil) ?_
   exact ⟨beSt M3 v w cr X.length X.length D,le_sub ⟨rfl,rfl,rfl,rfl,rfl,rfl,rfl,trivial⟩ ⟨rfl,rfl,rfl,rfl,trivial⟩ rfl rfl rfl (keepLt0 _),M3,D,m3,hD,hDv,rfl⟩
  have y1:decide ((i:Int)<(X.length:Int))=true:=by rw[decide_eq_true_eq];omega
  have wi:IntKind.i64.wrap ((i:Int)+1)=((i+1:Nat):Int):=succ_i (by omega)
  have h3:=hw.le (m2.trans m3)
  obtain ⟨v4,q1,f1⟩:=h3.hw.get hXb hlt
  have c4:=q1.one
  have hmk:=makF_red hw.x0 q1.s h3.su.s
  have hgx:X.getD i 0=X[i]:=by rw[List.getD_eq_getElem?_getD,List.getElem?_eq_getElem hlt];rfl
  have htk:(qX X).take (i+1)=(qX X).take i++[red (X.getD i 0) (lsum X)]:=by
   rw[List.take_add_one,hgx]
   unfold qX
   rw[List.getElem?_map,List.getElem?_eq_getElem hlt]
   rfl
  have hf:=A12 @beSt.eq_1 @beHp.eq_1 @scC.eq_1 @nilE.eq_1 y1 f1 c4 oo o2 p2 w2 (A4 w3 @frC_ment @frC_kill @hasK_nil);refine wS ?_;refine kN 51 (fmake_ok q1.l h3.su.l (okN_ofN _) (okN_ofN _) q1.s.big h3.su.s.big (fun w5 w6 M4 m4 g4 g5 _ _=>sG ?_));all_goals clear hf
  have m4:Mem.le M3 M4:=m4
  rw[hmk]at g4 g5
  have p4:=g4.one
  have p5:=g5.one
  have e0:(makF (ofN (X.getD i 0)) (ofN (lsum X))).1=0:=by rw[hmk]
  have hq4:IsF M4 w5 w6 (ofN (red (X.getD i 0) (lsum X)).1) (ofN (red (X.getD i 0) (lsum X)).2):=⟨g4,g5,okN_ofN _,okN_ofN _,((q1.s.le (red_p hw.x0).le1).big),((h3.su.s.le (red_p hw.x0).le2).big)⟩
  have ap:frC D++[.ext w5,.ext w6]=frC (D++[⟨w5,w6,ofN (red (X.getD i 0) (lsum X)).1,ofN (red (X.getD i 0) (lsum X)).2⟩]):=by simp[frC,FR.c]
  refine wG (A12 @scC.eq_1 @nilE.eq_1 e0 ap hcl wi y1 p4 p5 oo o2 (A6 p2 w2 w3 @frC_ment @frC_kill @hasK_nil)) ?_
  exact ⟨X.length-(i+1),beSt M4 v w cr X.length (i+1) (D++[⟨w5,w6,ofN (red (X.getD i 0) (lsum X)).1,ofN (red (X.getD i 0) (lsum X)).2⟩]),by omega,le_sub ⟨rfl,rfl,rfl,rfl,rfl,rfl,rfl,trivial⟩ ⟨rfl,rfl,rfl,rfl,trivial⟩ rfl rfl rfl (keepLt0 _),M4,_,i+1,rfl,by omega,m3.trans m4,(fun x hx=>by
   rcases List.mem_append.1 hx with hx|hx
   ·exact (hD x hx).le m4
   ·rw[List.mem_singleton.1 hx];exact hq4),by rw[List.map_append,hDv,htk,List.map_append];rfl,rfl⟩
 ·rintro z ⟨M3,D,m3,hD,hDv,rfl⟩
  have hql:(qX X).length=X.length:=by unfold qX;rw[List.length_map]
  have hDl:D.length=X.length:=by have:=congrArg List.length hDv;rw[List.length_map,List.length_map]at this;omega
  refine Fz.cellI (k:=49) (j:=6) (p0:=2) (n:=X.length) (q:=2) (off:=0) (T:=32) (T0:=53) (D.flatMap FR.c) [(6,.own 6 0),(3,.ext (.int .i64 0)),(2,.own 2 0)] [(2,53,[nilE,nilE,nilE])] rfl rfl rfl (by rw[flat_len (z:=2) (f:=FR.c) (fun _=>rfl)];omega) (Nat.zero_le _) (by decide) ⟨rfl,rfl,rfl,trivial⟩ (by simp[mentE,AV.ment]) ⟨rfl,trivial⟩ (by simp[mentH,mentL,AV.ment,nilE]) (keepLt0 _) (fun j hj _=>absurd hj (Nat.not_lt_zero _)) (fun M4 ww m4 hww _=>?_)
  have m4:Mem.le M3 M4:=m4
  rw[List.drop_zero,List.take_of_length_le (by rw[flat_len (z:=2) (f:=FR.c) (fun _=>rfl)];omega)]at hww
  have hww:IsR M4 2 FR.c ww D:=by unfold IsR;rw[hDl];exact hww
  have q4:=hww.one
  have m24:=m3.trans m4
  have hk:=hK X cr w.us ww M4 hp (m02.trans m24) ⟨g2.le m24,hw.hs.le (m2.trans m24),⟨D,hww,hD.le m4,hDv⟩⟩ hpx (hv.le (m2.trans m24))
  refine wT (A5 @nilE.eq_1 oo o2 p2 q4) ?_
  exact hk
end
section
variable {M:Mem}{K:AV→Hp→Mem→Prop}{v:SeV}{ur us uw:Value}{l:List Int}{P:List FR}{N:List (Nat×Nat)}{f g dl:Nat×Nat}{X:List Nat}{bb:Nat}
end
theorem newB_X{l:List Int}{P:List FR}{N:List (Nat×Nat)}(hc:chkL l=true)(hl:N.length=l.length)(h:P.map prV=N.map opN)(hN:∀p∈N,OkN p) :
  newB l P 2=⟨0,l,setsL l 2,qX (startX l N)⟩:=by
 have hnl:N.length=P.length:=by have:=congrArg List.length h;simpa using this.symm
 have hl8:=(chk_len hc).2
 have he:setsE l 2=0:=by unfold setsE;rw[if_pos hc];rfl
 have hin:P.all (fun x=>innF x.l1 x.l2)=true:=by
  rw[List.all_eq_true]
  intro x hx
  have:prV x∈N.map opN:=by rw[←h];exact List.mem_map_of_mem hx
  obtain ⟨p,hp,e⟩:=List.mem_map.1 this
  have h1:ofN p.1=x.l1∧ofN p.2=x.l2:=Prod.mk.injEq ..▸e
  rw[←h1.1,←h1.2]
  exact (hN p hp).innF
 have hw:(setsL l 2).map (newW P)=(startX l N).map fun x=>red x (pd N):=by
  unfold startX
  rw[List.map_map]
  exact List.map_congr_left fun s _=>(newW_red h hN (by omega) s).2
 have h1:pd N≤1000^8:=Nat.le_trans (pd_le hN) (Nat.pow_le_pow_right (by decide) (by omega))
 obtain ⟨hb,h0,_⟩:=start_sum hc hN hl
 have hbs:Sm b0:=(smC (j:=0) (by decide)).le (by omega)
 unfold newB
 rw[if_pos he,if_pos (by omega),hin,if_pos rfl,hw,normQ_red (pd_pos hN) (sm_1000_9.le (Nat.le_trans h1 (by decide))) (hbs.le hb) h0]
 rfl
section
variable {M:Mem}{K:AV→Hp→Mem→Prop}{v:SeV}{ur us uw:Value}{l u:List Int}{P:List FR}{N:List (Nat×Nat)}{f g dl:Nat×Nat}{X:List Nat}{bb:Nat}{b:List Bool}
end
section
variable {M:Mem}{K:AV→Hp→Mem→Prop}{ur us uw x1 x2 y1 y2:Value}{l:List Int}{s X:List Nat}{b:Nat}{f g:Nat×Nat}
end
section
variable {M:Mem}{K:AV→Hp→Mem→Prop}{v:SeV}{l u:List Int}{P:List FR}{N:List (Nat×Nat)}{f g dl:Nat×Nat}{fl dt d:LP}{b:List Bool}
end
section
variable {M:Mem}{K:AV→Hp→Mem→Prop}{v:SeV}{l u:List Int}{P:List FR}{fl dt d:LP}{b:List Bool}
def SeV.fresh(v:SeV):Value:=.agg #[v.ur,v.up,v.y1,v.y2,v.x1,v.x2,v.d1,v.d2,.int .i64 v.most,.slice none 0 0,.slice none 0 0]
def se0V:Value:=.agg #[.slice none 0 0,.slice none 0 0,.slice none 0 0,.slice none 0 0,.slice none 0 0,.slice none 0 0,.slice none 0 0,.slice none 0 0,.int .i64 0,.slice none 0 0,.slice none 0 0]
theorem rNew_ok(h:SeR M v l P fl dt d u b)(hK0:chkC l P fl dt d v.most≠0→∀M',Mem.le M M'→K (.ext (.tuple #[se0V,.int .i64 (chkC l P fl dt d v.most)])) [] M')
  (hK:chkC l P fl dt d v.most=0→∀M',Mem.le M M'→K (.ext (.tuple #[v.fresh,.int .i64 0])) [] M') :
  CallS Tryz.prog 15 [.ext (.agg #[v.ur]),.ext v.up,.ext (.agg #[v.y1,v.y2,v.x1,v.x2]),.ext (.agg #[v.d1,v.d2]),.ext (.int .i64 v.most)] [] M [] K:=by
 refine inlS (cs:=[]) Tryz.mixed Tryz.func15 rfl (by kernel_rfl) 0 rfl rfl ?_
 simp only[Tryz.f15]
 have oo:=h.ones
 unfold chkC at hK hK0
 unfold se0V at hK0
 unfold SeV.fresh at hK
 have hf:=oo;refine wS ?_;refine kN 45 (rnew_ok 2 h.r h.p h.o h.lb h.pb (fun wr ws ww M1 m1 g1 g2 g3=>sG ?_));all_goals clear hf
 have m1:Mem.le M M1:=m1
 have p1:=g1.one
 have p2:=g2.one
 have p3:=g3.one
 by_cases he:(newB l P 2).e=0
 case neg=>
  rw[if_neg he]at hK0
  have hk:=hK0 he M1 m1
  have z1:decide ((newB l P 2).e=0)=false:=decide_eq_false he
  refine wG (A5 oo p1 p2 p3 z1) ?_
  exact hk
 rw[if_pos he]at hK hK0
 have h1:=h.le m1
 have hf:=A5 oo p1 p2 p3 he;refine wH ?_;refine kN 46 (rnoi_ok h1.y h1.x (fun M2 m2=>sG ?_));all_goals clear hf
 have m2:Mem.le M1 M2:=m2
 cases hn:noiF fl.1 fl.2 dt.1 dt.2 with
 | false=>
  rw[hn,if_neg (by decide)]at hK0
  have hk:=hK0 (by decide) M2 (m1.trans m2)
  refine wG (A5 oo p1 p2 p3 hn) ?_
  exact hk
 | true=>
 rw[hn,if_pos rfl]at hK hK0
 have h2:=h1.le m2
 have hf:=A5 oo p1 p2 p3 hn;refine wH ?_;refine kN 47 (rinner_ok h2.d (fun M3 m3=>sG ?_));all_goals clear hf
 have m3:Mem.le M2 M3:=m3
 have m03:=m1.trans (m2.trans m3)
 cases hi:innF d.1 d.2 with
 | false=>
  rw[hi,if_neg (by decide)]at hK0
  have hk:=hK0 (by decide) M3 m03
  refine wG (A5 oo p1 p2 p3 hi) ?_
  exact hk
 | true=>
 rw[hi,if_pos rfl]at hK hK0
 by_cases z1:v.most<1
 ·rw[if_pos (.inl z1)]at hK0
  have hk:=hK0 (by decide) M3 m03
  have z2:decide (v.most<1)=true:=decide_eq_true z1
  refine wG (A6 oo p1 p2 p3 hi z2) ?_
  exact hk
 ·have z2:decide (v.most<1)=false:=decide_eq_false z1
  by_cases z3:16<v.most
  ·rw[if_pos (.inr z3)]at hK0
   have hk:=hK0 (by decide) M3 m03
   have z4:decide (16<v.most)=true:=decide_eq_true z3
   refine wG (A7 oo p1 p2 p3 hi z2 z4) ?_
   exact hk
  ·rw[if_neg (fun h=>h.elim z1 z3)]at hK
   have hk:=hK rfl M3 m03
   have z4:decide (16<v.most)=false:=decide_eq_false z3
   refine wG (A7 oo p1 p2 p3 hi z2 z4) ?_
   exact hk
end
section
variable {M:Mem}{K:AV→Hp→Mem→Prop}{v:SeV}{l u:List Int}{P:List FR}{fl dt d:LP}{b:List Bool}
end
section
variable {P:Program}{s:St}{K:St→Prop}
theorem copy_exec{o:Oper}{dT sT:TypeId}{x y:Operand}{a:Act}{w w':World}{r:Value}(hop:o.op=.call {callee:=.builtin .copy,args:=#[x,y],argTypes:=#[dT,sT]})
  (h:(Builtin.copy_ #[dT,sT] o.type #[a.eval x,a.eval y]).run P w=.ok r w'):(execOp a.eval o).run P w=.ok (.value r) w':=by
 simp[execOp,hop,resolve,Sem.run_bind,Sem.run_pure,Result.andThen_ok,invoke,builtin,h]
theorem ask_copy{o:Oper}{dT sT elem:TypeId}{x y:Operand}{k n:Nat}{T:TypeId}{cs:List AV}{u:Value}{vs:List Value}(hop:o.op=.call {callee:=.builtin .copy,args:=#[x,y],argTypes:=#[dT,sT]})
  (ht:P.underlying dT=some (.slice elem)) (hz:(P.info? elem).map (·.size)=some 1) (hx:ev s x=.slo k 0 n 1) (hy:ev s y=.ext u) (hk:lkH s.hp k=some (T,cs)) (hn:cs.length=n) (h0:0<n) (hu:SlM s.M 1 u n vs) (h1:∀v∈vs,v.oneCell'=true)
  (hK:K (({s with hp:=upH s.hp k (vs.map .ext)}:St).put o.dst (.ext (.int .i64 (n:Int))))):AskK P o s K:=by
 intro c m a w Q hg hd
 obtain ⟨ρ,g⟩:=hg
 have ex:=g.ev x
 rw[hx]at ex
 have ey:a.eval y=u:=by have:=g.ev y;rw[hy]at this;exact this
 rcases ex with ⟨b,cap,hb,e,h2,h3⟩|⟨rfl,_⟩
 case inr=>exact absurd h0 (Nat.lt_irrefl 0)
 rcases hu.cases with ⟨rfl,_⟩|⟨b',off,c',rfl,h4,hr⟩
 ·exact absurd h0 (Nat.lt_irrefl 0)
 obtain ⟨hl,hget⟩:=rowM_get hr
 rw[Nat.mul_one]at hl
 obtain ⟨⟨arr,r1⟩,_⟩:=g.hp k T cs b hk hb
 have hsz:=r1.size
 have hle:=r1.le
 have hsrc:∀j v,vs[j]? = some v→w.cell? (Addr.add ⟨b',off,none⟩ j)=some v:=fun j v hj=>by
  have:=hget j v hj
  rw[addr_add]
  exact cellM_ok g.sub this
 have hrun:=run_copy_row (P:=P) w dT sT o.type elem b.b 0 n cap ⟨b',off,none⟩ n c' arr T vs ht hz r1.there (by rw[hl];exact (Nat.min_self n).symm) hsrc (by omega) h1
 have hex:=copy_exec (a:=a) hop (by rw[e,ey];exact hrun)
 have hg2:=g.sto (w':=w.setRow b.b (arr.toList.take 0++vs++arr.toList.drop (0+vs.length)).toArray) (cs':=vs.map .ext) (arr':=(arr.toList.take 0++vs++arr.toList.drop (0+vs.length)).toArray) hk hb ⟨rfl,rfl,rfl,by simp[World.setRow],fun i hi=>by simp[World.setRow,Array.getElem?_modify,Ne.symm hi]⟩ ⟨by simp[World.setRow,Array.getElem?_modify,r1.there],by simp;omega,by simp;omega,fun i v hv=>by
  have hi:i<vs.length:=by have:=(List.getElem?_eq_some_iff.1 hv).1;simpa using this
  rw[List.getElem?_map,List.getElem?_eq_getElem hi]at hv
  have hv:AV.ext vs[i]=v:=Option.some.inj hv
  subst hv
  show _=vs[i]
  simp[Array.getD_eq_getD_getElem?,List.getElem?_append,hi]⟩
 unfold Oper.wp
 rw[show Sem.run P (execOp a.eval o) w=_ from hex]
 rw[hl]
 simp only[Oper.upon]
 rw[hl]at hg2
 exact ⟨_,hK,ρ,hg2.put rfl hd⟩
theorem ask_copy0{o:Oper}{dT sT elem:TypeId}{x y:Operand}{k:Nat}{u:Value}{vs:List Value}(hop:o.op=.call {callee:=.builtin .copy,args:=#[x,y],argTypes:=#[dT,sT]})
  (ht:P.underlying dT=some (.slice elem)) (hz:(P.info? elem).map (·.size)=some 1) (hx:ev s x=.slo k 0 0 1) (hy:ev s y=.ext u) (hu:SlM s.M 1 u 0 vs)
  (hK:K (s.put o.dst (.ext (.int .i64 0)))):AskK P o s K:=by
 intro c m a w Q hg hd
 obtain ⟨ρ,g⟩:=hg
 have ex:=g.ev x
 rw[hx]at ex
 have ey:a.eval y=u:=by have:=g.ev y;rw[hy]at this;exact this
 obtain ⟨A,cap,e⟩:∃A cap,a.eval x=.slice A 0 cap:=by
  rcases ex with ⟨b,cap,hb,e,h2,h3⟩|⟨_,A,_,e⟩
  ·exact ⟨_,_,e⟩
  ·exact ⟨_,_,e⟩
 obtain ⟨B,c',e2⟩:∃B c',u=.slice B 0 c':=by
  rcases hu.cases with ⟨_,_,B,c',e2⟩|⟨b',off,c',e2,_,_⟩
  ·exact ⟨B,c',e2⟩
  ·exact ⟨_,c',e2⟩
 have hrun:=run_copy_none (P:=P) w dT sT o.type elem A B 0 cap 0 c' ht hz rfl
 have hex:=copy_exec (a:=a) hop (by rw[e,ey,e2];exact hrun)
 unfold Oper.wp
 rw[show Sem.run P (execOp a.eval o) w=_ from hex]
 simp only[Oper.upon]
 exact ⟨_,hK,ρ,g.put rfl hd⟩
end
section
variable {M:Mem}{K:AV→Hp→Mem→Prop}{u1 u2:Value}{l1 l2:List Nat}
theorem cfrac_ok(h:IsF M u1 u2 l1 l2)(hK:∀w1 w2 M',Mem.le M M'→IsF M' w1 w2 l1 l2→FreshS M w1→FreshS M w2→K (.ext (.agg #[w1,w2])) [] M') :
  CallS Tryz.prog 84 [.ext (.agg #[u1,u2])] [] M [] K:=by
 refine inlS (cs:=[]) Tryz.mixed Tryz.func84 rfl (by kernel_rfl) 0 rfl rfl ?_
 simp only[Tryz.f84]
 have o1:=h.n.one
 have o2:=h.d.one
 have b1:=h.bn
 have b2:=h.bd
 have hf:=A2 o1 o2;refine sF ?_;(repeat' ((first|((with_reducible refine yM ?_);refine kS 120 (cloneN_ok u1 l1 h.n (by omega) (fun w1 M1 m1 g1 f1=>Stop.mk ?_)))|((with_reducible refine isE 3 (by decide) ?_);refine dR ((0,[]) :: (1,[]) :: (3,[1]) :: (4,[1]) :: (2,[4]) :: (rP 5 3 [] [])) (rgL 3 5 []) [] ?_)|refine oB ?_|fail)<;>refine sF ?_<;>try with_reducible exact tT))<;>try clear hf
 have m1:Mem.le M M1:=m1
 have p1:=g1.one
 refine Stop.go ?_
 have hf:=A3 o1 o2 p1;refine sF ?_;(repeat' ((first|((with_reducible refine yM ?_);refine kS 120 (cloneN_ok u2 l2 (h.d.le m1) (by omega) (fun w2 M2 m2 g2 f2=>Stop.mk ?_)))|((with_reducible refine isE 3 (by decide) ?_);refine dR ((0,[]) :: (1,[]) :: (3,[1]) :: (4,[1]) :: (2,[4]) :: (rP 5 3 [] [])) (rgL 3 5 []) [] ?_)|refine oB ?_|fail)<;>refine sF ?_<;>try with_reducible exact tT))<;>try clear hf
 have m2:Mem.le M1 M2:=m2
 have p2:=g2.one
 have hk:=hK w1 w2 M2 (m1.trans m2) ⟨g1.le m2,g2,h.on,h.od,h.bn,h.bd⟩ f1 (f2.le m1)
 refine Stop.go ?_
 have hf:=A4 o1 o2 p1 p2;refine sF ?_;(repeat' ((first|((with_reducible refine isE 3 (by decide) ?_);refine dR ((0,[]) :: (1,[]) :: (3,[1]) :: (4,[1]) :: (2,[4]) :: (rP 5 3 [] [])) (rgL 3 5 []) [] ?_)|refine oB ?_|fail)<;>refine sF ?_<;>try with_reducible exact tT))<;>try clear hf
 exact hk
end
section
variable {M:Mem}{K:AV→Hp→Mem→Prop}{v:SeV}{l u:List Int}{P:List FR}{fl dt d:LP}{b:List Bool}
def se0:List AV:=[nilE,nilE,nilE,nilE,nilE,nilE,nilE,nilE,.ext (.int .i64 0),nilE,nilE]
def cpC(v:SeV)(wr:Value):List AV:=[.ext wr,.ext v.up,.ext v.y1,.ext v.y2,.ext v.x1,.ext v.x2,.ext v.d1,.ext v.d2,.ext (.int .i64 v.most),.ext v.uq,.ext v.uf]
def copSt(M:Mem)(v:SeV)(wr:Value)(n i:Nat)(D:List FR):St:={env:=[(21,.ext (.int .i64 (i:Int))),(20,.ext (.int .i64 (n:Int))),(19,.ext v.up),(3,.slo 17 0 n 2),(2,.own 2 0),(1,.own 1 0)],hp:=[(17,32,frC (D++List.replicate (n-i) zFR)),(2,37,se0),(1,37,cpC v wr)],M:=M,kb:=0,fx:=[]}
structure CopF (M0:Mem) (w:SeV) (D:List FR):Prop where
 r:FreshS M0 w.ur
 p:FreshS M0 w.up
 o:∀x∈D,FreshS M0 x.u1∧FreshS M0 x.u2
 y1:FreshS M0 w.y1
 y2:FreshS M0 w.y2
 x1:FreshS M0 w.x1
 x2:FreshS M0 w.x2
 d1:FreshS M0 w.d1
 d2:FreshS M0 w.d2
theorem repN_one(x:Value):∀n,(repN [x] n).length=n
 | 0=>rfl
 | n+1=>by simp[repN,repN_one x n]
theorem ccopied_ok(h:SeR M v l P fl dt d u b)(z2:u.length=b.length)
  (hK:∀(w:SeV) D M',Mem.le M M'→CopF M w D→w.most=v.most→IsL M' intV64 w.ur l→IsR M' 2 FR.c w.up D→okFL M' D→D.map prV=P.map prV→IsF M' w.y1 w.y2 fl.1 fl.2→IsF M' w.x1 w.x2 dt.1 dt.2→IsF M' w.d1 w.d2 d.1 d.2→K (.ag false ([.ext w.ur,.ext w.up,.ext w.y1,.ext w.y2,.ext w.x1,.ext w.x2,.ext w.d1,.ext w.d2,.ext (.int .i64 v.most),.slo 51 0 u.length 1,.slo 55 0 b.length 1])) [(55,4,cE Value.bool b),(51,3,cE intV64 u)] M') :
  CallS Tryz.prog 44 [.ext v.v] [] M [] K:=by
 refine inlS (cs:=[8]) Tryz.mixed Tryz.func44 rfl (by kernel_rfl) 0 rfl rfl ?_
 simp only[Tryz.f44]
 have oo:=h.ones
 have n2:=h.p.len
 have s2:=h.p.sl
 have pb:=h.pb
 have hf:=A2 @SeV.v.eq_1 oo;refine wS ?_;refine kN 50 (cloneI_ok v.ur l h.r (by have:=h.lb;omega) (fun wr M1 m1 g1 f1=>sG ?_));all_goals clear hf
 have m1:Mem.le M M1:=m1
 have p1:=g1.one
 refine wG (A5 @frC_rep oo p1 n2 s2) ?_
 refine ⟨fun z=>∃M' D,Mem.le M1 M'∧D.length=P.length∧okFL M' D∧(∀x∈D,FreshS M x.u1∧FreshS M x.u2)∧D.map prV=P.map prV∧z=copSt M' v wr P.length P.length D,?_,?_⟩
 ·refine wT (A4 oo p1 n2 s2) ?_
  refine ⟨fun m z=>∃M' D i,m=P.length-i∧i≤P.length∧Mem.le M1 M'∧D.length=i∧okFL M' D∧(∀x∈D,FreshS M x.u1∧FreshS M x.u2)∧D.map prV=(P.take i).map prV∧z=copSt M' v wr P.length i D,
   ⟨P.length,copSt M1 v wr P.length 0 [],le_sub ⟨rfl,rfl,rfl,rfl,rfl,rfl,trivial⟩ ⟨rfl,rfl,rfl,trivial⟩ rfl rfl rfl (keepLt0 _),⟨M1,[],0,by omega,by omega,Mem.le.refl _,rfl,(fun x hx=>by cases hx),(fun x hx=>by cases hx),rfl,rfl⟩⟩,?_⟩
  rintro m z ⟨M2,D,i,rfl,hi,m2,hD,hDo,hDf,hDv,rfl⟩
  by_cases hlt:i<P.length
  case neg=>
   obtain rfl:i=P.length:=by omega
   have y1:decide ((P.length:Int)<(P.length:Int))=false:=by simp
   rw[List.take_length]at hDv
   refine wT (A10 @copSt.eq_1 @cpC.eq_1 @se0.eq_1 @nilE.eq_1 y1 oo p1 @frC_ment @frC_kill @hasK_nil) ?_
   exact ⟨copSt M2 v wr P.length P.length D,le_sub ⟨rfl,rfl,rfl,rfl,rfl,rfl,trivial⟩ ⟨rfl,rfl,rfl,trivial⟩ rfl rfl rfl (keepLt0 _),M2,D,m2,hD,hDo,hDf,hDv,rfl⟩
  have y1:decide ((i:Int)<(P.length:Int))=true:=by rw[decide_eq_true_eq];omega
  have y2:(0:Int)≤(i:Int):=by omega
  have y3:(i:Int)<(P.length:Int):=by omega
  have wi:IntKind.i64.wrap ((i:Int)+1)=((i+1:Nat):Int):=succ_i (by omega)
  have m02:=m1.trans m2
  have hu2:=h.p.le m02
  have hnn:=hu2.nn hlt
  have hat:=hu2.at (P:=Tryz.prog) (T:=32) (fun _=>rfl) tk32 tz32 hlt
  have hF:=(h.o.le m02) _ (List.getElem_mem hlt)
  have htk:(P.take (i+1)).map prV=(P.take i).map prV++[prV P[i]]:=by rw[List.take_add_one,List.getElem?_eq_getElem hlt,List.map_append];rfl
  have hlen:=frC_len (D++List.replicate (P.length-i) zFR)
  rw[List.length_append,hD,List.length_replicate,show i+(P.length-i)=P.length by omega]at hlen
  have hin:i*2+2≤P.length*2:=by omega
  generalize P[i]=x at *
  obtain ⟨x1,x2,c1,c2⟩:=x
  have hat2:lookM Tryz.prog 32 M2 (elemP v.up 2 i)=some (.agg #[x1,x2]):=hat
  clear hat
  have hF:IsF M2 x1 x2 c1 c2:=hF
  have p3:=hF.n.one
  have p4:=hF.d.one
  have hf:=A12 @copSt.eq_1 @cpC.eq_1 @se0.eq_1 @nilE.eq_1 y1 y2 y3 hnn hat2 oo p1 (A7 p3 p4 n2 s2 @frC_ment @frC_kill @hasK_nil);refine wS ?_;(first|refine yN ?_|refine yM ?_);refine kS 84 (cfrac_ok hF (fun w1 w2 M3 m3 g3 fa fb=>sG ?_));all_goals clear hf
  have m3:Mem.le M2 M3:=m3
  have p5:=g3.n.one
  have p6:=g3.d.one
  have hst:=frC_setF (L:=D++List.replicate (P.length-i) zFR) (i:=i) (by rw[List.length_append,hD,List.length_replicate];omega) ⟨w1,w2,c1,c2⟩
  rw[set_fill D _ _ hD hlt]at hst
  refine wG (A12 @cpC.eq_1 @se0.eq_1 @nilE.eq_1 p5 p6 wi y1 y2 y3 hlen hin (A9 hst oo p1 n2 s2 @frC_ment @frC_kill @hasK_nil @Nat.zero_add)) ?_
  exact ⟨P.length-(i+1),copSt M3 v wr P.length (i+1) (D++[⟨w1,w2,c1,c2⟩]),by omega,le_sub ⟨rfl,rfl,rfl,rfl,rfl,rfl,trivial⟩ ⟨rfl,rfl,rfl,trivial⟩ rfl rfl rfl (keepLt0 _),M3,_,i+1,rfl,by omega,m2.trans m3,by rw[List.length_append,hD];rfl,(fun x hx=>by
   rcases List.mem_append.1 hx with hx|hx
   ·exact (hDo x hx).le m3
   ·rw[List.mem_singleton.1 hx];exact g3),(fun x hx=>by
   rcases List.mem_append.1 hx with hx|hx
   ·exact hDf x hx
   ·rw[List.mem_singleton.1 hx];exact ⟨fa.le m02,fb.le m02⟩),by rw[List.map_append,hDv,htk];rfl,rfl⟩
 ·rintro z ⟨M2,D,m2,hD,hDo,hDf,hDv,rfl⟩
  refine Fz.flat (k:=17) (n:=P.length) (w:=2) (T:=32) 3 (D.flatMap FR.c) [(2,.own 2 0),(1,.own 1 0)] [(2,37,se0),(1,37,cpC v wr)] rfl (by
   show some (_,frC (D++List.replicate (P.length-P.length) zFR))=_
   rw[Nat.sub_self,List.replicate_zero,List.append_nil];rfl) (by rw[flat_len (z:=2) (f:=FR.c) (fun _=>rfl),hD]) (Nat.zero_le _) ⟨rfl,rfl,trivial⟩ rfl ⟨rfl,rfl,trivial⟩ rfl (keepLt0 _) (fun j hj _=>absurd hj (Nat.not_lt_zero _)) (fun M3 wp m3 hwp fp=>?_)
  have m3:Mem.le M2 M3:=m3
  have hwp:IsR M3 2 FR.c wp D:=by unfold IsR;rw[hD];exact hwp
  have p2:=hwp.one
  have m03:=(m1.trans m2).trans m3
  have h3:=h.le m03
  have nq:=h.q.len
  have sq:=h.q.sl
  have nf:=h.f.len
  have sf:=h.f.sl
  have hf:=A6 @cpC.eq_1 @se0.eq_1 @nilE.eq_1 oo p1 p2;refine wS ?_;(first|refine yN ?_|refine yM ?_);refine kS 84 (cfrac_ok h3.d (fun e1 e2 M4 m4 g4 h41 h42=>sG ?_));all_goals clear hf
  have m4:Mem.le M3 M4:=m4
  have q1:=g4.n.one
  have q2:=g4.d.one
  refine Stop.go ?_
  (try with_reducible refine Fz.of ?_);have hf:=A8 @cpC.eq_1 @se0.eq_1 @nilE.eq_1 oo p1 p2 q1 q2;refine sF ?_;(repeat' ((first|((with_reducible first|refine yN ?_|refine yM ?_);refine kS 84 (cfrac_ok (h3.y.le m4) (fun a1 a2 M5 m5 g5 h51 h52=>Stop.mk ?_)))|((with_reducible refine isE 38 (by decide) ?_);refine dR (rP 0 3 [] (rP 4 3 [2] ((3,[6]) :: (rP 7 4 [] [])))) (rgL 38 7 []) [] ?_)|refine oB ?_|fail)<;>refine sF ?_<;>try with_reducible exact tT))<;>try clear hf
  have m5:Mem.le M4 M5:=m5
  have q3:=g5.n.one
  have q4:=g5.d.one
  refine Stop.go ?_
  (try with_reducible refine Fz.of ?_);have hf:=A10 @cpC.eq_1 @se0.eq_1 @nilE.eq_1 oo p1 p2 q1 q2 q3 q4;refine sF ?_;(repeat' ((first|((with_reducible first|refine yN ?_|refine yM ?_);refine kS 84 (cfrac_ok ((h3.x.le m4).le m5) (fun b1 b2 M6 m6 g6 h61 h62=>Stop.mk ?_)))|((with_reducible refine isE 38 (by decide) ?_);refine dR (rP 0 3 [] (rP 4 3 [2] ((3,[6]) :: (rP 7 4 [] [])))) (rgL 38 7 []) [] ?_)|refine oB ?_|fail)<;>refine sF ?_<;>try with_reducible exact tT))<;>try clear hf
  have m6:Mem.le M5 M6:=m6
  have q5:=g6.n.one
  have q6:=g6.d.one
  have hqb:=h.qb
  have hfb:=h.fb
  refine Stop.go ?_
  (try with_reducible refine Fz.of ?_);have hf:=A12 @copSt.eq_1 @cpC.eq_1 @se0.eq_1 @nilE.eq_1 oo p1 p2 q1 q2 q3 q4 (A6 q5 q6 nq sq nf sf);refine sF ?_;(repeat' ((first|((with_reducible refine isE 38 (by decide) ?_);refine dR (rP 0 3 [] (rP 4 3 [2] ((3,[6]) :: (rP 7 4 [] [])))) (rgL 38 7 []) [] ?_)|((with_reducible refine isE 48 (by decide) ?_);refine dR (rP 0 4 [] (rP 4 4 [1] [(8,[5]),(9,[])])) (6 :: (rgL 48 8 [])) [] ?_)|refine oB ?_|fail)<;>refine sF ?_<;>try with_reducible exact tT))<;>try clear hf
  have h6:=((h3.le m4).le m5).le m6
  have m36:=m4.trans (m5.trans m6)
  have hkk:=hK ⟨wr,wp,a1,a2,b1,b2,e1,e2,v.most,v.uq,v.uf⟩ D M6 (m03.trans m36) ⟨f1,FreshS.le fp (m1.trans m2),hDf,h51.le (m03.trans m4),h52.le (m03.trans m4),h61.le (m03.trans (m4.trans m5)),h62.le (m03.trans (m4.trans m5)),h41.le m03,h42.le m03⟩ rfl (g1.le (m2.trans (m3.trans m36))) (hwp.le m36) (hDo.le (m3.trans m36)) hDv (g5.le m6) g6 (g4.le (m5.trans m6))
  by_cases h0:0<u.length
  case pos=>
   refine ask_copy (k:=51) (T:=3) (elem:=3) (u:=v.uq) (vs:=u.map intV64) rfl (by rfl) (by rfl) rfl rfl rfl (by rw[List.length_map,repN_one]) h0 h6.q (fun x hx=>by obtain ⟨y,_,rfl⟩:=List.mem_map.1 hx;rfl) ?_
   refine wT (A12 @copSt.eq_1 @cpC.eq_1 @se0.eq_1 @nilE.eq_1 oo p1 p2 q1 q2 q3 q4 (A6 q5 q6 nq sq nf sf)) ?_
   refine ask_copy (k:=55) (T:=4) (elem:=4) (u:=v.uf) (vs:=b.map Value.bool) rfl (by rfl) (by rfl) rfl rfl rfl (by rw[List.length_map,repN_one]) (by omega) h6.f (fun x hx=>by obtain ⟨y,_,rfl⟩:=List.mem_map.1 hx;rfl) ?_
   have ce1:List.map AV.ext (List.map intV64 u)=cE intV64 u:=rfl
   have ce2:List.map AV.ext (List.map Value.bool b)=cE Value.bool b:=rfl
   refine wT (A12 @copSt.eq_1 @cpC.eq_1 @se0.eq_1 @nilE.eq_1 oo p1 p2 q1 q2 q3 q4 (A11 q5 q6 nq sq nf sf ce1 ce2 @cE_ment @cE_kill @hasK_nil)) ?_
   exact hkk
  case neg=>
   have hu0:u=[]:=List.eq_nil_of_length_eq_zero (by omega)
   have hb0:b=[]:=List.eq_nil_of_length_eq_zero (by omega)
   subst hu0 hb0
   have h6q:SlM M6 1 v.uq 0 ([]:List Value):=h6.q
   have h6f:SlM M6 1 v.uf 0 ([]:List Value):=h6.f
   refine ask_copy0 (k:=51) (elem:=3) (u:=v.uq) (vs:=[]) rfl (by rfl) (by rfl) rfl rfl h6q ?_
   refine wT (A12 @copSt.eq_1 @cpC.eq_1 @se0.eq_1 @nilE.eq_1 oo p1 p2 q1 q2 q3 q4 (A6 q5 q6 nq sq nf sf)) ?_
   refine ask_copy0 (k:=55) (elem:=4) (u:=v.uf) (vs:=[]) rfl (by rfl) (by rfl) rfl rfl h6f ?_
   refine wT (A12 @copSt.eq_1 @cpC.eq_1 @se0.eq_1 @nilE.eq_1 oo p1 p2 q1 q2 q3 q4 (A6 q5 q6 nq sq nf sf)) ?_
   exact hkk
end
mutual
def BorN(M0 M:Mem)(H:Hp):AV→Value→Prop
 | .ext v,u=>u=v
 | .slo k off n z,u=>FreshS M0 u∧∀T (cs:List Value),lkH H k=some (T,cs.map .ext)→off+n*z≤cs.length→SlM M z u n ((cs.drop off).take (n*z))
 | .ag t l,u=>∃us,BorNL M0 M H l us∧u=aggV t us
 | .own _ _,_=>True
 | .gd _ _,_=>True
 | .gown _ _ _,_=>True
 | .fn _ _,_=>True
 | .bm _ _,_=>True
 | .unk,_=>True
def BorNL(M0 M:Mem)(H:Hp):List AV→List Value→Prop
 | [],us=>us=[]
 | v :: l,us=>∃u r,us=u :: r∧BorN M0 M H v u∧BorNL M0 M H l r
end
section
variable {ρ:Rho}{M0 M:Mem}{H:Hp}{w:World}
mutual
theorem borN_is(hM:HoldH ρ M0 M H w):∀(v:AV) (u:Value),(∀j∈v.ment,(lkH H j).isSome=true)→v.is ρ u→BorN M0 M H v u
 | .ext _,_,_,h=>h
 | .slo k off n z,u,hj,h=>by
  obtain ⟨x,hx⟩:=Option.isSome_iff_exists.1 (hj k (by simp[AV.ment]))
  exact ⟨slo_fresh h fun b hb=>(hM k x.1 x.2 b hx hb).2,fun T cs hk hl=>slo_SlMo h (by simpa using hl) fun b hb=>(hM k T _ b hk hb).1⟩
 | .ag t l,u,hj,h=>by
  obtain ⟨us,h1,h2⟩:=h
  exact ⟨us,borNL_is hM l us hj h1,h2⟩
 | .own _ _,_,_,_=>trivial
 | .gd _ _,_,_,_=>trivial
 | .gown _ _ _,_,_,_=>trivial
 | .fn _ _,_,_,_=>trivial
 | .bm _ _,_,_,_=>trivial
 | .unk,_,_,_=>trivial
theorem borNL_is(hM:HoldH ρ M0 M H w):∀(l:List AV) (us:List Value),(∀j∈mentL l,(lkH H j).isSome=true)→isL ρ l us→BorNL M0 M H l us
 | [],us,_,h=>h
 | v :: l,us,hj,h=>by
  obtain ⟨u,r,h0,h1,h2⟩:=h
  exact ⟨u,r,h0,borN_is hM v u (fun j hm=>hj j (by simp only[mentL,List.mem_append];exact .inl hm)) h1,borNL_is hM l r (fun j hm=>hj j (by simp only[mentL,List.mem_append];exact .inr hm)) h2⟩
end
end
def FrzA(K:AV→Hp→Mem→Prop)(H:Hp)(v:AV)(F:Hp)(M':Mem):Prop:=K v F M'∨closedH F∧(∀j∈v.ment,(lkH F j).isSome=true)∧(∀j,(lkH F j).isSome=true→lkH H j=none)∧∀u M'',Mem.le M' M''→BorN M' M'' F v u→K (.ext u) [] M''
open Classical in
theorem CallS.frzA{P:Program}{f:FuncId}{args:List AV}{H:Hp}{M:Mem}{K:AV→Hp→Mem→Prop}(h:CallS P f args H M [] (FrzA K H))(hH:H=[]):CallS P f args H M [] K:=by
 subst hH
 intro ρ w us hh he
 refine (h ρ w us hh he).mono fun e w' hall=>?_
 obtain ⟨x,v,F,M',ρ',e1,hor,hl⟩:=hall
 rcases hor with hor|⟨hc,hvF,hoff,hK⟩
 ·exact ⟨x,v,F,M',ρ',e1,hor,hl⟩
 let B:Nat→Prop:=fun b=>∃j y,(lkH F j).isSome=true∧ρ' j=some y∧y.b=b
 let M'':Mem:=fun b=>if B b then w'.heap[b]? else M' b
 have hMB:∀b,B b→M' b=none:=fun b ⟨j,y,hj,hy,e⟩=>by
  obtain ⟨q,hq⟩:=Option.isSome_iff_exists.1 hj
  rw[←e];exact (hl.heap.hp j q.1 q.2 y hq hy).2
 have hle:Mem.le M' M'':=fun b o hb=>by
  by_cases hB:B b
  ·rw[hMB b hB]at hb;cases hb
  ·simp only[M'',if_neg hB];exact hb
 have hbor:BorN M' M'' F v x:=borN_is (w:=w') (ρ:=ρ') (fun j T cs b hj hb=>by
  obtain ⟨⟨arr,h1⟩,h2⟩:=hl.heap.hp j T cs b hj hb
  have hB:B b.b:=⟨j,b,by rw[hj];rfl,hb,rfl⟩
  exact ⟨⟨arr,by simp only[M'',if_pos hB];exact h1.there,h1⟩,h2⟩) v x hvF hl.is
 let ρ2:Rho:=fun j=>if (lkH F j).isSome=true then ρ j else ρ' j
 have hρ:∀j,lkH F j=none→ρ' j=ρ2 j:=fun j hj=>by simp only[ρ2,hj];simp
 refine ⟨x,_,[],M'',ρ2,e1,hK x M'' hle hbor,?_⟩
 refine {is:=rfl,heap:=⟨fun j T' ds b hj hb=>(by simp[lkH]at hj),fun j T' ds hj hb=>(by simp[lkH]at hj),fun j j' b b' hj hj' hb hb' e=>(by simp[lkH]at hj),fun b o hb=>?_⟩,keep:=fun j hj=>?_,same:=fun j hj hm=>?_,ment:=fun j hj=>?_,fresh:=fun j b hj hb=>(by simp[lkH]at hj),os:=hl.os,tape:=hl.tape,output:=hl.output,size:=hl.size,block:=hl.block,le:=hl.le.trans hle,mem:=fun b hb=>?_}
 ·by_cases hB:B b
  ·simp only[M'',if_pos hB]at hb;exact hb
  ·simp only[M'',if_neg hB]at hb;exact hl.heap.sub b o hb
 ·simp[lkH]at hj
 ·by_cases e:(lkH F j).isSome=true
  ·simp only[ρ2,if_pos e]
  ·have e2:lkH F j=none:=by cases h:lkH F j with
    | none=>rfl
    | some y=>rw[h]at e;exact absurd rfl e
   rw[←hρ j e2]
   exact hl.same j (.inr e2) hm
 ·exact ⟨by simp[AV.ment],fun i T' ds hi=>by simp[lkH]at hi⟩
 ·by_cases hB:B b
  ·obtain ⟨j,y,hj,hy,rfl⟩:=hB
   rcases hl.fresh j y hj hy with h6|⟨j',q',h6,h7,h8⟩
   ·exact .inr h6
   ·simp[lkH]at h6
  ·simp only[M'',if_neg hB]at hb
   exact hl.mem b hb
theorem facG_con2(s:Nat):∀(L L':List FR) (j:Nat),L.map prV=L'.map prV→facG s j L=facG s j L'
 | [],[],_,_=>rfl
 | [],_ :: _,_,h=>by simp at h
 | _ :: _,[],_,h=>by simp at h
 | x :: r,y :: q,j,h=>by
  rw[List.map_cons,List.map_cons,List.cons.injEq]at h
  have h1:x.l1=y.l1∧x.l2=y.l2:=Prod.mk.injEq ..▸h.1
  rw[facG,facG,facG_con2 s r q _ h.2]
  unfold facE
  rw[h1.1,h1.2]
theorem newB_con2{l:List Int}{P D:List FR}{m:Int}(h:D.map prV=P.map prV):newB l D m=newB l P m:=by
 have hl:D.length=P.length:=by have:=congrArg List.length h;simpa using this
 have hw:newW D=newW P:=funext fun s=>by unfold newW;rw[facG_con2 s D P 0 h]
 unfold newB
 rw[hl,all_cong innF D P h,hw]
theorem chkC_cong{l:List Int}{P D:List FR}{fl dt d:LP}{m:Int}(h:D.map prV=P.map prV):chkC l D fl dt d m=chkC l P fl dt d m:=by
 unfold chkC
 rw[newB_con2 h]
theorem numF_cong{P D:List FR}(h:D.map prV=P.map prV):D.map numF=P.map numF:=by
 have h2:=congrArg (fun t=>t.map numL) h
 simp only[List.map_map]at h2
 exact h2
theorem playS_cong{l u:List Int}{P D:List FR}{fl dt d:LP}{m:Int}{b:List Bool}(h:D.map prV=P.map prV):playS l D fl dt d m u b=playS l P fl dt d m u b:=by
 unfold playS
 rw[chkC_cong h,numF_cong h]
theorem pureH_closed{F:Hp}(h:pureH F):closedH F:=fun k T cs j hk hj=>by
 obtain ⟨vs,rfl⟩:=pureH_lk h hk
 rw[mentL_ext]at hj
 cases hj
theorem FrzA.search{K:AV→Hp→Mem→Prop}{M':Mem}{k1 k2 n1 n2:Nat}{T1 T2:TypeId}{a0 a1 a2 a3 a4 a5 a6 a7 a8 e:Value}{us:List Int}{bs:List Bool}{F:Hp}(hF1:lkH F k1=some (T1,cE intV64 us))(hF2:lkH F k2=some (T2,cE Value.bool bs))(hn1:n1=us.length)(hn2:n2=bs.length)(hp:pureH F)
  (h:∀uq uf M'',Mem.le M' M''→IsL M'' intV64 uq us→IsL M'' Value.bool uf bs→FreshS M' uq→FreshS M' uf→K (.ext (.tuple #[.agg #[a0,a1,a2,a3,a4,a5,a6,a7,a8,uq,uf],e])) [] M'') :
  FrzA K [] (.ag true [.ag false [.ext a0,.ext a1,.ext a2,.ext a3,.ext a4,.ext a5,.ext a6,.ext a7,.ext a8,.slo k1 0 n1 1,.slo k2 0 n2 1],.ext e]) F M':=by
 subst hn1 hn2
 refine .inr ⟨pureH_closed hp,fun j hj=>?_,fun j _=>rfl,fun u M'' hM hb=>?_⟩
 ·simp only[AV.ment,mentL,List.nil_append,List.append_nil,List.mem_append,List.mem_singleton]at hj
  rcases hj with rfl|rfl
  ·rw[hF1];rfl
  ·rw[hF2];rfl
 ·simp only[BorN,BorNL]at hb
  obtain ⟨_,⟨_,_,rfl,⟨_,⟨x0,r0,rfl,rfl,x1,r1,rfl,rfl,x2,r2,rfl,rfl,x3,r3,rfl,rfl,x4,r4,rfl,rfl,x5,r5,rfl,rfl,x6,r6,rfl,rfl,x7,r7,rfl,rfl,x8,r8,rfl,rfl,uq,r9,rfl,⟨f1,q1⟩,uf,r10,rfl,⟨f2,q2⟩,rfl⟩,rfl⟩,_,_,rfl,rfl,rfl⟩,rfl⟩:=hb
  have g1:=q1 T1 _ hF1 (by simp)
  have g2:=q2 T2 _ hF2 (by simp)
  rw[List.drop_zero,List.take_of_length_le (by simp)]at g1 g2
  exact h uq uf M'' hM g1 g2 f1 f2
structure SeF (M0:Mem) (w:SeV) (D:List FR):Prop where
 c:CopF M0 w D
 q:FreshS M0 w.uq
 f:FreshS M0 w.uf
theorem IsF.move36{M' M'' M3:Mem}{u1 u2:Value}{l1 l2:List Nat}(h:IsF M'' u1 u2 l1 l2)(f1:FreshS M' u1)(f2:FreshS M' u2)(h3:∀b,M' b=none→M3 b=M'' b):IsF M3 u1 u2 l1 l2:=⟨h.n.move f1 h3,h.d.move f2 h3,h.on,h.od,h.bn,h.bd⟩
theorem SeR.move{M' M'' M3:Mem}{w:SeV}{l:List Int}{D:List FR}{fl dt d:LP}{u:List Int}{b:List Bool}(h:SeR M'' w l D fl dt d u b)(hf:SeF M' w D)(h3:∀b,M' b=none→M3 b=M'' b):SeR M3 w l D fl dt d u b:=
 ⟨h.r.move hf.c.r h3,SlM.move h.p hf.c.p h3,fun x hx=>(h.o x hx).move36 (hf.c.o x hx).1 (hf.c.o x hx).2 h3,h.y.move36 hf.c.y1 hf.c.y2 h3,h.x.move36 hf.c.x1 hf.c.x2 h3,h.d.move36 hf.c.d1 hf.c.d2 h3,h.lb,h.pb,h.q.move hf.q h3,h.f.move hf.f h3,h.qb,h.fb⟩
section
variable {M:Mem}{K:AV→Hp→Mem→Prop}{v:SeV}{l u:List Int}{P:List FR}{fl dt d:LP}{b:List Bool}
theorem cnew_ok(h:SeR M v l P fl dt d [] [])(hq:v.uq=.slice none 0 0)(hf:v.uf=.slice none 0 0)
  (hK0:chkC l P fl dt d v.most≠0→∀M',Mem.le M M'→K (.ext (.tuple #[se0V,.int .i64 (chkC l P fl dt d v.most)])) [] M')
  (hK:chkC l P fl dt d v.most=0→∀(w:SeV) D M',Mem.le M M'→SeF M w D→D.map prV=P.map prV→w.most=v.most→SeR M' w l D fl dt d [] []→K (.ext (.tuple #[w.v,.int .i64 0])) [] M') :
  CallS Tryz.prog 14 [.ext (.agg #[v.ur]),.ext v.up,.ext (.agg #[v.y1,v.y2,v.x1,v.x2]),.ext (.agg #[v.d1,v.d2]),.ext (.int .i64 v.most)] [] M [] K:=by
 refine CallS.frzA ?_ rfl
 refine inlS (cs:=[]) Tryz.mixed Tryz.func14 rfl (by kernel_rfl) 0 rfl rfl ?_
 simp only[Tryz.f14]
 have oo:=h.ones
 have hve:v.v=.agg #[v.ur,v.up,v.y1,v.y2,v.x1,v.x2,v.d1,v.d2,.int .i64 v.most,.slice none 0 0,.slice none 0 0]:=by unfold SeV.v;rw[hq,hf]
 have hck:=fun K=>ccheck_ok (K:=K) h
 rw[hve]at hck
 have hf:=oo;refine wS ?_;refine kN 43 (hck _ (fun M1 m1=>sG ?_));all_goals clear hf
 have m1:Mem.le M M1:=m1
 by_cases z1:chkC l P fl dt d v.most=0
 case neg=>
  have d1:decide (chkC l P fl dt d v.most=0)=false:=decide_eq_false z1
  have hk:=hK0 z1 M1 m1
  unfold se0V at hk
  refine wG (A2 oo d1) ?_
  exact .inl hk
 have hcp:=fun K=>ccopied_ok (K:=K) (h.le m1) rfl
 rw[hve]at hcp
 have hf:=A2 oo z1;refine wH ?_;refine kN 44 (hcp _ (fun w D M2 m2 hcf hm g1 g2 g3 g4 g5 g6 g7=>sG ?_));all_goals clear hf
 have m2:Mem.le M1 M2:=m2
 have hpl:D.length=P.length:=by have:=congrArg List.length g4;simpa using this
 have p1:=g1.one
 have p2:=g2.one
 have p3:=g5.n.one
 have p4:=g5.d.one
 have p5:=g6.n.one
 have p6:=g6.d.one
 have p7:=g7.n.one
 have p8:=g7.d.one
 refine wG (A12 oo p1 p2 p3 p4 p5 p6 p7 p8 @cE_ment @cE_kill @hasK_nil) ?_
 refine FrzA.search (T1:=3) (T2:=4) (us:=[]) (bs:=[]) rfl rfl rfl rfl (by simp[pureH,cE]) (fun uq uf M3 m3 q1 q2 j1 j2=>?_)
 have hk:=hK z1 ⟨w.ur,w.up,w.y1,w.y2,w.x1,w.x2,w.d1,w.d2,v.most,uq,uf⟩ D M3 (m1.trans (m2.trans m3)) ⟨⟨hcf.r.le m1,hcf.p.le m1,fun x hx=>⟨(hcf.o x hx).1.le m1,(hcf.o x hx).2.le m1⟩,hcf.y1.le m1,hcf.y2.le m1,hcf.x1.le m1,hcf.x2.le m1,hcf.d1.le m1,hcf.d2.le m1⟩,j1.le (m1.trans m2),j2.le (m1.trans m2)⟩ g4 rfl ⟨g1.le m3,g2.le m3,g3.le m3,g5.le m3,g6.le m3,g7.le m3,h.lb,by rw[hpl];exact h.pb,q1,q2,by simp,by simp⟩
 exact hk
theorem creport_ok(failed:Bool)(h:SeR M v l P fl dt d u b)
  (hK0:playS l P fl dt d v.most u b=none→∀M',Mem.le M M'→K (.ext (.tuple #[se0V,.int .i64 1])) [] M')
  (hK1:∀X,playS l P fl dt d v.most u b=some X→(nextX l (setsL l 2) (numL d) v.most X u.length).2≠0→∀M',Mem.le M M'→K (.ext (.tuple #[se0V,.int .i64 (nextX l (setsL l 2) (numL d) v.most X u.length).2])) [] M')
  (hK:∀X,playS l P fl dt d v.most u b=some X→(nextX l (setsL l 2) (numL d) v.most X u.length).2=0→∀(w:SeV) D M',Mem.le M M'→D.map prV=P.map prV→w.most=v.most→SeR M' w l D fl dt d (u++[(nextX l (setsL l 2) (numL d) v.most X u.length).1]) (b++[failed])→K (.ext (.tuple #[w.v,.int .i64 0])) [] M') :
  CallS Tryz.prog 23 [.ext v.v,.ext (.bool failed)] [] M [] K:=by
 refine CallS.frzA ?_ rfl
 refine inlS (cs:=[]) Tryz.mixed Tryz.func23 rfl (by kernel_rfl) 0 rfl rfl ?_
 simp only[Tryz.f23]
 have oo:=h.ones
 have hf:=A2 @SeV.v.eq_1 oo;refine wS ?_;refine kN 22 (cNext_ok h (fun hp M1 m1=>sG ?_) (fun X M1 hp m1=>sG ?_));all_goals clear hf
 ·have hk:=hK0 hp M1 m1
  unfold se0V at hk
  refine wG oo ?_
  exact .inl hk
 have m1:Mem.le M M1:=m1
 by_cases e0:(nextX l (setsL l 2) (numL d) v.most X u.length).2=0
 case neg=>
  have hk:=hK1 X hp e0 M1 m1
  unfold se0V at hk
  have y2:decide ((nextX l (setsL l 2) (numL d) v.most X u.length).2=0)=false:=decide_eq_false e0
  refine wG (A2 oo y2) ?_
  exact .inl hk
 have hs:=hp
 unfold playS at hs
 by_cases hh:chkC l P fl dt d v.most=0∧u.length=b.length∧(u.length:Int)≤v.most
 case neg=>rw[if_neg hh]at hs;cases hs
 obtain ⟨z1,z2,z3⟩:=hh
 have hvm:=(h.ok z1).2.2.1
 clear hs
 have hf:=A2 oo e0;refine wH ?_;refine kN 44 (ccopied_ok (h.le m1) z2 (fun w D M2 m2 hcf hm g1 g2 g3 g4 g5 g6 g7=>sG ?_));all_goals clear hf
 have m2:Mem.le M1 M2:=m2
 have hpl:D.length=P.length:=by have:=congrArg List.length g4;simpa using this
 have p1:=g1.one
 have p2:=g2.one
 have p3:=g5.n.one
 have p4:=g5.d.one
 have p5:=g6.n.one
 have p6:=g6.d.one
 have p7:=g7.n.one
 have p8:=g7.d.one
 have hkk:=hK X hp e0
 generalize (nextX l (setsL l 2) (numL d) v.most X u.length).1=p at *
 have ap1:cE intV64 u++[.ext (.int .i64 p)]=cE intV64 (u++[p]):=cE_snoc intV64 u p
 have ap2:cE Value.bool b++[.ext (.bool failed)]=cE Value.bool (b++[failed]):=cE_snoc Value.bool b failed
 have hl1:(cE intV64 u).length=u.length:=cE_len ..
 have hl2:(cE Value.bool b).length=b.length:=cE_len ..
 refine Stop.go ?_
 have hf:=A12 oo p1 p2 p3 p4 p5 p6 p7 p8 ap1 ap2 (A5 hl1 hl2 @cE_ment @cE_kill @hasK_nil);refine sF ?_;(repeat' ((first|((with_reducible refine isE 19 (by decide) ?_);refine dR ((0,[]) :: (1,[]) :: (2,[1]) :: (3,[1]) :: (5,[1]) :: (6,[1]) :: (7,[1,6]) :: (8,[1,6]) :: (4,[5,6,7,8]) :: (10,[]) :: (9,[10]) :: (rP 11 3 [] [])) (rgL 19 11 []) [] ?_)|refine oB ?_|fail)<;>refine sF ?_<;>try with_reducible exact tT))<;>try clear hf
 refine FrzA.search (T1:=3) (T2:=4) (us:=u++[p]) (bs:=b++[failed]) rfl rfl (by simp) (by simp) ⟨⟨_,rfl⟩,⟨_,rfl⟩,trivial⟩ (fun uq uf M3 m3 q1 q2 j1 j2=>?_)
 have hqb:=h.qb
 have hfb:=h.fb
 exact hkk ⟨w.ur,w.up,w.y1,w.y2,w.x1,w.x2,w.d1,w.d2,v.most,uq,uf⟩ D M3 (m1.trans (m2.trans m3)) g4 rfl ⟨g1.le m3,g2.le m3,g3.le m3,g5.le m3,g6.le m3,g7.le m3,h.lb,by rw[hpl];exact h.pb,q1,q2,by simp only[List.length_append,List.length_singleton];omega,by simp only[List.length_append,List.length_singleton];omega⟩
theorem cnew_bor(k n:Nat)(T:TypeId)(hn:n=P.length)(h:SeR M v l [] fl dt d [] [])(h3:okFL M P)(b2:P.length<1000000)(hc:chkC l P fl dt d v.most=0)
  (hK:∀(w:SeV) D M',Mem.le M M'→D.map prV=P.map prV→w.most=v.most→SeR M' w l D fl dt d [] []→K (.ext (.tuple #[w.v,.int .i64 0])) [(k,T,frC P)] M') :
  CallS Tryz.prog 14 [.ext (.agg #[v.ur]),.slo k 0 n 2,.ext (.agg #[v.y1,v.y2,v.x1,v.x2]),.ext (.agg #[v.d1,v.d2]),.ext (.int .i64 v.most)] [(k,T,frC P)] M [] K:=by
 refine CallS.bor ⟨⟨_,rfl⟩,trivial⟩ fun us M' hM hb'=>?_
 obtain ⟨_,_,rfl,rfl,v1,_,rfl,hv,_,_,rfl,rfl,_,_,rfl,rfl,_,_,rfl,rfl,rfl⟩:=hb'
 have g1:=hv.isR (L:=P) (T:=T) (by simp[lkH]) hn
 refine cnew_ok (v:=⟨v.ur,v1,v.y1,v.y2,v.x1,v.x2,v.d1,v.d2,v.most,.slice none 0 0,.slice none 0 0⟩) ⟨h.r.le hM,g1,h3.le hM,h.y.le hM,h.x.le hM,h.d.le hM,h.lb,b2,isL_nil _ _ _,isL_nil _ _ _,by simp,by simp⟩ rfl rfl (fun hne=>absurd hc hne) (fun _ w D M2 m2 hf hD hm hR=>?_)
 exact ⟨fun j hj=>rfl,fun M3 h5 h6 _=>hK w D M3 h5 hD hm (hR.move hf h6)⟩
end
structure OdV where
 f1:Value
 f2:Value
 s1:Value
 s2:Value
 p1:Value
 p2:Value
def OdV.c(o:OdV):List AV:=[.ext o.f1,.ext o.f2,.ext o.s1,.ext o.s2,.ext o.p1,.ext o.p2]
def OdV.v(o:OdV):Value:=.agg #[o.f1,o.f2,o.s1,o.s2,o.p1,o.p2]
structure OdI (M:Mem) (o:OdV) (t:Nat×Nat×Nat) (D:Nat):Prop where
 f:IsF M o.f1 o.f2 (ofN (red t.1 D).1) (ofN (red t.1 D).2)
 s:IsF M o.s1 o.s2 (ofN (red t.2.1 D).1) (ofN (red t.2.1 D).2)
 p:IsF M o.p1 o.p2 (ofN (red t.2.2 D).1) (ofN (red t.2.2 D).2)
theorem OdI.le{M M':Mem}{o:OdV}{t:Nat×Nat×Nat}{D:Nat}(h:OdI M o t D)(hM:Mem.le M M'):OdI M' o t D:=⟨h.f.le hM,h.s.le hM,h.p.le hM⟩
theorem OdI.ones{M:Mem}{o:OdV}{t:Nat×Nat×Nat}{D:Nat}(h:OdI M o t D):o.f1.oneCell'=true∧o.f2.oneCell'=true∧o.s1.oneCell'=true∧o.s2.oneCell'=true∧o.p1.oneCell'=true∧o.p2.oneCell'=true:=
 ⟨h.f.n.one,h.f.d.one,h.s.n.one,h.s.d.one,h.p.n.one,h.p.d.one⟩
section
variable {M:Mem}{K:AV→Hp→Mem→Prop}{o:OdV}{t:Nat×Nat×Nat}{n dn:Value}{x den c D:Nat}
end
section
variable {K:AV→Hp→Mem→Prop}{v:SeV}{l:List Int}{P:List FR}{N:List (Nat×Nat)}{f g dl:Nat×Nat}
end
theorem CallS.eqv{P:Program}{f:FuncId}{args:List AV}{H H2:Hp}{M:Mem}{mv:List Nat}{K:AV→Hp→Mem→Prop}(he:∀k,lkH H k=lkH H2 k)(h:CallS P f args H2 M mv K):CallS P f args H M mv K:=
 CallS_eqv (fun k=>(he k).symm) h
section
variable {M:Mem}{K:AV→Hp→Mem→Prop}{v:SeV}{l u:List Int}{P:List FR}{fl dt d:LP}{b:List Bool}
end
theorem sets_nodup(l:List Int)(m:Int):(setsL l m).Nodup:=by
 unfold setsL
 split
 ·unfold hyps hypTo
  exact List.Nodup.sublist List.filter_sublist List.nodup_range
 ·exact List.nodup_nil
theorem sets_inj{l:List Int}{m:Int}{i j:Nat}(hi:i<(setsL l m).length)(hj:j<(setsL l m).length):(setsL l m)[i]=(setsL l m)[j]↔i=j:=by
 constructor
 ·intro h
  have hp:=List.pairwise_iff_getElem.1 (sets_nodup l m)
  rcases Nat.lt_trichotomy i j with h1|h1|h1
  ·exact absurd h (hp i j hi hj h1)
  ·exact h1
  ·exact absurd h.symm (hp j i hj hi h1)
 ·intro h;subst h;rfl
section
variable {K:AV→Hp→Mem→Prop}{v:SeV}{l:List Int}{P:List FR}{N:List (Nat×Nat)}{f g dl:Nat×Nat}{k:Nat}
end
theorem after_get{l:List Int}{p:Int}{q:Bool}{f g:Nat×Nat}{X s:List Nat}{k:Nat}(hk:k<X.length)(hs:k<s.length)(h:X.length=s.length):(afterX l p q f g X s).getD k 0=if effN l p.toNat &&& s[k]=0 then X.getD k 0*(outN q f).1*g.2 else X.getD k 0*(outN q g).1*f.2:=by
 have h1:k<(afterX l p q f g X s).length:=by rw[afterX_len h];exact hs
 have h2:X.getD k 0=X[k]:=by rw[List.getD_eq_getElem?_getD,List.getElem?_eq_getElem hk];rfl
 rw[List.getD_eq_getElem?_getD,List.getElem?_eq_getElem h1,Option.getD_some,h2]
 unfold afterX at h1 ⊢
 rw[mulX_get hk hs h1,out2,out2]
section
variable {K:AV→Hp→Mem→Prop}{v:SeV}{l:List Int}{P:List FR}{N:List (Nat×Nat)}{f g dl:Nat×Nat}{k:Nat}
end
end Go.Proofs.YtiipiciemgdaeaaGreat.Sx
