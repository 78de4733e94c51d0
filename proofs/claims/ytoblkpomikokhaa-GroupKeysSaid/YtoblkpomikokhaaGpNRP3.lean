/- Part 29 of the texts of this claim: a symbolic executor and contracts of functions. -/
import Derived.Test.YtoblkpomikokhaaGpNRP2
import Derived.Test.YtoblkpomikokhaaGpNRCSub
namespace Go.Proofs.Ytoblkpomikokhaa.Sx
open Go Go.RowKit
set_option linter.unusedVariables false
set_option linter.unusedSimpArgs false
set_option maxRecDepth 100000
set_option maxHeartbeats 8000000
attribute [local congr] fin_congr finG_congr stepG_congr step1_congr runOps_congr brv_congr obl_congr condK_congr LoopK_congr seqK_congr CutK_congr vc_congr DrawK_congr regK_congr CallK_congr AskK_congr newK_congr retC_congr ret1_congr retK_congr outV_congr closeK_congr genR_congr appR_congr finD_congr finGD_congr stepGD_congr stepD_congr CallK0_congr runD_congr okR_congr CallS_congr vcX_congr
attribute [local congr] Stop_congr
def clF(X:List Stk):List AV:=(X.flatMap clC).map .ext
theorem clF_len(X:List Stk):(clF X).length=X.length*3:=by
 unfold clF
 rw[List.length_map,flat_len (z:=3) (fun _=>rfl)]
theorem clF_ment(X:List Stk):mentL (clF X)=[]:=mentL_ext _
theorem clF_kill(k:Nat)(X:List Stk):killL k (clF X)=clF X:=killL_exts _ _
theorem clF_app(X:List Stk)(s:Bst×Bst×Int):clF X++[.ext (.string (bs s.1)),.ext (.string (bs s.2.1)),.ext (.int .i64 s.2.2)]=clF (X++[s]):=by simp[clF,clC]
def faF(X:List Fa):List AV:=(X.flatMap faC).map .ext
theorem faF_ment(X:List Fa):mentL (faF X)=[]:=mentL_ext _
theorem faF_kill(k:Nat)(X:List Fa):killL k (faF X)=faF X:=killL_exts _ _
theorem FrzF.fail{K:AV→Hp→Mem→Prop}{H H2:Hp}{M':Mem}{k n:Nat}{T:TypeId}{a b c d:Value}(cs:List Value)(h1:lkH H k=none)(h2:cs.length=n*3)(h3:hasK k (mentH H2)=false)(h4:lkH H2 k=none)(h:∀u M'',Mem.le M' M''→SlM M'' 3 u n cs→FreshS M' u→K (.ext (.agg #[a,b,c,d,u])) H2 M''):FrzF K H (.ag false [.ext a,.ext b,.ext c,.ext d,.slo k 0 n 3]) ((k,T,cs.map .ext) :: H2) M':=
 .inr ⟨some false,[.ext a,.ext b,.ext c,.ext d],[],k,n,3,T,cs,H2,rfl,rfl,h4,h1,h2,by simp[mentL,AV.ment,hasK,h3],fun u M'' x y z=>h u M'' x y z⟩
structure drF (least:Nat) (f:Fa):Prop where
 pk:f.1=[112]
 ts:f.2.1.length=1
 e0:0≤f.2.2.1
 e1:f.2.2.1≤1
 l0:least≤f.2.2.2.2.2.length
 l1:f.2.2.2.2.2.length≤least+3
section
variable {M:Mem}{K:AV→Hp→Mem→Prop}
def flSt(M:Mem)(v:Value)(m:Bst)(i:Nat)(X:List Stk):St:={env:=[(6,.ext (.int .i64 (i:Int))),(5,.own 105 0),(4,.own 104 0),(1,.ext v)],hp:=[(105,34,[.ext (.string (bs [112])),.ext (.string (bs [116])),.ext (.int .i64 0),.ext (.string (bs m)),.slo 125 0 i 3]),(125,74,clF X),(104,34,[.ext (.string (bs [])),.ext (.string (bs [])),.ext (.int .i64 0),.ext (.string (bs [])),.ext (.slice none 0 0)])],M:=M,kb:=100,fx:=[]}
def stkF(L:List Bst):List Stk:=L.zipIdx.map fun p=>(p.1,[120,46,103,111],(p.2:Int))
def fl0(M:Mem)(v:Value)(m:Bst):St:={env:=[(6,.ext (.int .i64 0)),(5,.own 105 0),(4,.own 104 0),(1,.ext v)],hp:=[(105,34,[.ext (.string (bs [112])),.ext (.string (bs [116])),.ext (.int .i64 0),.ext (.string (bs m)),.ext (.slice none 0 0)]),(104,34,[.ext (.string (bs [])),.ext (.string (bs [])),.ext (.int .i64 0),.ext (.string (bs [])),.ext (.slice none 0 0)])],M:=M,kb:=100,fx:=[]}
theorem fl0_le(M:Mem)(v:Value)(m:Bst):Le (fl0 M v m) (flSt M v m 0 []):=
 (le_nilH (s:=fl0 M v m) 105 4 125 74 34 _ 3 rfl rfl (.inl rfl)).trans (le_sub ⟨rfl,rfl,rfl,rfl,trivial⟩ ⟨rfl,rfl,rfl,trivial⟩ rfl rfl rfl (keepLt_of rfl))
theorem stkF_len(L:List Bst):(stkF L).length=L.length:=by simp[stkF]
theorem stkF_at(L:List Bst)(i:Nat)(h:i<L.length):(stkF L)[i]'(by rw[stkF_len];exact h)=(L[i],[120,46,103,111],(i:Int)):=by simp[stkF]
theorem fail_ok(m:Bst)(v:Value)(L:List Bst)(hv:IsL M sbV v L)(hL:L.length<1000)
  (hK:∀u M',Mem.le M M'→IsR M' 3 clC u (stkF L)→FreshS M u→K (.ext (faV [112] [116] 0 m u)) [] M'):CallS Try.prog 22 [.ext (.string (bs m)),.ext v] [] M [] K:=by
 refine CallS.frzF ?_
 refine inlS (cs:=[]) Try.mixed Try.func22 rfl (by kernel_rfl) 100 rfl rfl ?_
 simp only[Try.f22]
 have vo:=hv.one
 have vl:=hv.len
 have vs:=hv.sl
 have n1:bs [112]=⟨#[112]⟩:=rfl
 refine Go1.mk ?_;repeat' ((first|(with_reducible refine Go1.go ?_)|(refine And.intro ?_ ?_;(try simp only[sxO]at *);omega)|fail)<;>(try simp (maxSteps:=1000000) only [vo,vl,vs,bs_mk,bs_app,bs_ext,bs_size,bs_toList,bs_at,bs_cells,List.take_length,imp_ga,guard_pk,guard_pk2,↓hold_pre,awayP,runOps,regK,step1,newK,genR,appR,obl,buildR,Value.cells,closeK,keepH,outV,retK,ret1,retC,RetV,Option.getD,runD,stepD,afterK,undef,simprocAttr,sxB,↓sxD,sxE,sxTab]))
 refine ⟨fun q z=>∃i,q=L.length-i∧i≤L.length∧z=flSt M v m i ((stkF L).take i),⟨L.length,flSt M v m 0 [],Le.trans (le_sub (z:=fl0 M v m) ⟨rfl,rfl,rfl,rfl,trivial⟩ ⟨rfl,rfl,trivial⟩ rfl rfl rfl (keepLt_of rfl)) (fl0_le _ _ _),⟨0,by omega,by omega,rfl⟩⟩,?_⟩
 rintro q z ⟨i,rfl,hi,rfl⟩
 have lX:(clF ((stkF L).take i)).length=i*3:=by rw[clF_len,List.length_take,stkF_len,Nat.min_eq_left hi]
 by_cases hlt:i<L.length
 case neg=>
  obtain rfl:i=L.length:=by omega
  have y1:decide ((L.length:Int)<(L.length:Int))=false:=by simp
  rw[List.take_of_length_le (by rw[stkF_len];exact Nat.le_refl _)]at lX ⊢
  refine Go1.mk ?_;repeat' ((first|(with_reducible refine Go1.go ?_)|(refine And.intro ?_ ?_;(try simp only[sxO]at *);omega)|fail)<;>(try simp (maxSteps:=1000000) only [flSt,y1,vo,vl,vs,lX,clF_ment,clF_kill,hasK_nil,bs_mk,bs_app,bs_ext,bs_size,bs_toList,bs_at,bs_cells,List.take_length,imp_ga,guard_pk,guard_pk2,↓hold_pre,awayP,runOps,regK,step1,newK,genR,appR,obl,buildR,Value.cells,closeK,keepH,outV,retK,ret1,retC,RetV,Option.getD,runD,stepD,afterK,undef,simprocAttr,sxB,↓sxD,sxE,sxTab]))
  exact FrzF.fail ((stkF L).flatMap clC) rfl (by rw[flat_len (z:=3) (fun _=>rfl),stkF_len]) rfl rfl (fun u M'' a b c=>hK u M'' a (by unfold IsR;rw[stkF_len];exact b) c)
 have y1:decide ((i:Int)<(L.length:Int))=true:=by rw[decide_eq_true_eq];omega
 have f1:=hv.idx (P:=Try.prog) (T:=9) tk9 tz9 (by omega) hlt
 have wi:IntKind.i64.wrap ((i:Int)+1)=((i+1:Nat):Int):=by rw[wrap_id (by omega) (by omega)];omega
 have hs:=clF_app ((stkF L).take i) (L[i],[120,46,103,111],(i:Int))
 rw[←stkF_at L i hlt,←List.take_succ_eq_append_getElem (by rw[stkF_len];exact hlt)]at hs
 rw[stkF_at L i hlt]at hs
 have hs:clF ((stkF L).take i)++[.ext (.string (bs L[i])),.ext (.string (bs [120,46,103,111])),.ext (.int .i64 (i:Int))]=clF ((stkF L).take (i+1)):=hs
 refine Go1.mk ?_;repeat' ((first|(with_reducible refine Go1.go ?_)|((with_reducible refine isDraw [some 16,some 17,some 18,some 19,some 20,some 21,some 22,some 23,some 24,some 25,some 26,none] (by decide) ?_);refine draw_rule [(0,[]),(1,[]),(2,[1]),(3,[1]),(4,[1]),(5,[1]),(6,[1,5]),(7,[1]),(8,[1]),(9,[]),(10,[]),(11,[])] [[],[0],[],[],[2,3],[2,3,4],[],[2,3,4,5,6],[2,3,4,5,6,7],[0,1,2,3,4,5,6,7,8],[0,1,2,3,4,5,6,7,8,9],[0,1,2,3,4,5,6,7,8,9,10]] [16,17,18,19,20,21,22,23,24] [] (by kernel_rfl) (by kernel_rfl) (by kernel_rfl) (by kernel_rfl) (by exact trivial) ?_)|(refine And.intro ?_ ?_;(try simp only[sxO]at *);omega)|fail)<;>(try simp (maxSteps:=1000000) only [flSt,y1,f1,sbV,wi,hs,maxLen,vo,vl,vs,lX,clF_ment,clF_kill,hasK_nil,Nat.mul_one,bs_mk,bs_app,bs_ext,bs_size,bs_toList,bs_at,bs_cells,List.take_length,imp_ga,guard_pk,guard_pk2,↓hold_pre,awayP,runOps,regK,step1,newK,genR,appR,obl,buildR,Value.cells,closeK,keepH,outV,retK,ret1,retC,RetV,Option.getD,runD,stepD,afterK,undef,simprocAttr,sxB,↓sxD,sxE,sxTab]))
 exact ⟨L.length-(i+1),flSt M v m (i+1) ((stkF L).take (i+1)),by omega,le_sub ⟨rfl,rfl,rfl,rfl,trivial⟩ ⟨rfl,rfl,rfl,trivial⟩ rfl rfl rfl (keepLt_of rfl),i+1,rfl,by omega,rfl⟩
theorem fail_nil(m:Bst)(hK:K (.ext (faV [112] [116] 0 m (.slice none 0 0))) [] M):CallS Try.prog 22 [.ext (.string (bs m)),.ext (.slice none 0 0)] [] M [] K:=by
 refine inlS (cs:=[]) Try.mixed Try.func22 rfl (by kernel_rfl) 100 rfl rfl ?_
 simp only[Try.f22]
 have n1:bs [112]=⟨#[112]⟩:=rfl
 refine Go1.mk ?_;repeat' ((first|(with_reducible refine Go1.go ?_)|(refine And.intro ?_ ?_;(try simp only[sxO]at *);omega)|fail)<;>(try simp (maxSteps:=1000000) only [bs_mk,bs_app,bs_ext,bs_size,bs_toList,bs_at,bs_cells,List.take_length,imp_ga,guard_pk,guard_pk2,↓hold_pre,awayP,runOps,regK,step1,newK,genR,appR,obl,buildR,Value.cells,closeK,keepH,outV,retK,ret1,retC,RetV,Option.getD,runD,stepD,afterK,undef,simprocAttr,sxB,↓sxD,sxE,sxTab]))
 refine ⟨fun q z=>q=0∧z=fl0 M (.slice none 0 0) m,⟨0,fl0 M (.slice none 0 0) m,le_sub (z:=fl0 M (.slice none 0 0) m) ⟨rfl,rfl,rfl,rfl,trivial⟩ ⟨rfl,rfl,trivial⟩ rfl rfl rfl (keepLt_of rfl),⟨rfl,rfl⟩⟩,?_⟩
 rintro q z ⟨rfl,rfl⟩
 refine Go1.mk ?_;repeat' ((first|(with_reducible refine Go1.go ?_)|(refine And.intro ?_ ?_;(try simp only[sxO]at *);omega)|fail)<;>(try simp (maxSteps:=1000000) only [fl0,hasK_nil,bs_mk,bs_app,bs_ext,bs_size,bs_toList,bs_at,bs_cells,List.take_length,imp_ga,guard_pk,guard_pk2,↓hold_pre,awayP,runOps,regK,step1,newK,genR,appR,obl,buildR,Value.cells,closeK,keepH,outV,retK,ret1,retC,RetV,Option.getD,runD,stepD,afterK,undef,simprocAttr,sxB,↓sxD,sxE,sxTab]))
 exact hK
theorem fail_bor(m:Bst)(k n:Nat)(T:TypeId)(L:List Bst)(hn:n=L.length)(hL:L.length<1000)
  (hK:∀u M',Mem.le M M'→IsR M' 3 clC u (stkF L)→K (.ext (faV [112] [116] 0 m u)) [(k,T,cE sbV L)] M'):CallS Try.prog 22 [.ext (.string (bs m)),.slo k 0 n 1] [(k,T,cE sbV L)] M [] K:=by
 refine CallS.bor ⟨⟨_,rfl⟩,trivial⟩ fun us M' hM hb'=>?_
 obtain ⟨_,_,rfl,rfl,v1,_,rfl,hv,rfl⟩:=hb'
 exact fail_ok m v1 L (hv.isL (T:=T) (by simp[lkH]) hn) hL fun u M2 c1 c2 c3=>⟨fun j hj=>rfl,fun M3 h5 h6 _=>hK u M3 h5 (SlM.move c2 c3 h6)⟩
def msL:List Bst:=[[],[97,32,49],[97,32,50],[98],[99],[100],[101,47,102]]
def tsL:List Bst:=[[116],[117]]
def fnL:List Bst:=[[102],[103],[104],[105],[106]]
def tpH(u:Value)(p:Nat):List AV:=[.ext u,.ext (.int .i64 (p:Int))]
def fuSt(M:Mem)(u:Value)(p:Nat)(ts m:Bst)(e:Int)(c i:Nat)(X:List Stk):St:={env:=[(6,.ext (.int .i64 (c:Int))),(5,.own 105 0),(4,.own 104 0),(0,.own 40 0)],hp:=[(105,34,[.ext (.string (bs [112])),.ext (.string (bs ts)),.ext (.int .i64 e),.ext (.string (bs m)),.slo 136 0 i 3]),(136,74,clF X),(104,34,[.ext (.string (bs [])),.ext (.string (bs [])),.ext (.int .i64 0),.ext (.string (bs [])),.ext (.slice none 0 0)]),(40,38,tpH u p)],M:=M,kb:=100,fx:=[40]}
def fu0(M:Mem)(u:Value)(p:Nat)(ts m:Bst)(e:Int)(c:Nat):St:={env:=[(6,.ext (.int .i64 (c:Int))),(5,.own 105 0),(4,.own 104 0),(0,.own 40 0)],hp:=[(105,34,[.ext (.string (bs [112])),.ext (.string (bs ts)),.ext (.int .i64 e),.ext (.string (bs m)),.ext (.slice none 0 0)]),(104,34,[.ext (.string (bs [])),.ext (.string (bs [])),.ext (.int .i64 0),.ext (.string (bs [])),.ext (.slice none 0 0)]),(40,38,tpH u p)],M:=M,kb:=100,fx:=[40]}
theorem fu0_le(M:Mem)(u:Value)(p:Nat)(ts m:Bst)(e:Int)(c:Nat):Le (fu0 M u p ts m e c) (fuSt M u p ts m e c 0 []):=
 (le_nilH (s:=fu0 M u p ts m e c) 105 4 136 74 34 _ 3 rfl rfl (.inl rfl)).trans (le_sub ⟨rfl,rfl,rfl,rfl,trivial⟩ ⟨rfl,rfl,rfl,rfl,trivial⟩ rfl rfl rfl (keepLt_of rfl))
theorem failure_ok(u:Value)(l:List Int)(p least:Nat)(hu:IsL M intV64 u l)(hp:p<900000)(hl:least≤10)
  (hK:∀(f:Fa) M' p',Mem.le M M'→p'≤p+100→drF least f→faOk M' f→FreshS M f.2.2.2.2.1→K (.ext (faV f.1 f.2.1 f.2.2.1 f.2.2.2.1 f.2.2.2.2.1)) [(40,38,tpH u p')] M'):CallS Try.prog 11 [.own 40 0,.ext (.int .i64 (least:Int))] [(40,38,tpH u p)] M [] K:=by
 refine CallS.frzF ?_
 refine inlS (cs:=[]) Try.mixed Try.func11 rfl (by kernel_rfl) 100 rfl rfl ?_
 simp only[Try.f11]
 have uo:=hu.one
 have n1:[AV.ext (.string (bs [])),.ext (.string (bs [97,32,49])),.ext (.string (bs [97,32,50])),.ext (.string (bs [98])),.ext (.string (bs [99])),.ext (.string (bs [100])),.ext (.string (bs [101,47,102]))]=cE sbV msL:=rfl
 have n2:[AV.ext (.string (bs [116])),.ext (.string (bs [117]))]=cE sbV tsL:=rfl
 have n3:[AV.ext (.string (bs [102])),.ext (.string (bs [103])),.ext (.string (bs [104])),.ext (.string (bs [105])),.ext (.string (bs [106]))]=cE sbV fnL:=rfl
 refine Go1.mk ?_;repeat' ((first|(with_reducible refine Go1.go ?_)|((with_reducible refine isCall (f:=31) ?_);refine callA ?_)|((with_reducible refine isCall0 (f:=31) ?_);refine callA0 ?_)|((with_reducible refine isCallS (f:=31) ?_);refine (one_ok 40 108 (by decide) u l _ msL _ _ (by rfl) hu (by omega) (by decide) (by decide) (fun i hi=>Stop.mk ?_)))|(refine And.intro ?_ ?_;(try simp only[sxO]at *);omega)|fail)<;>(try simp (maxSteps:=1000000) only [tpH,faV,uo,n1,cE_ment,cE_kill,hasK_nil,bs_mk,bs_app,bs_ext,bs_size,bs_toList,bs_at,bs_cells,List.take_length,imp_ga,guard_pk,guard_pk2,↓hold_pre,awayP,runOps,regK,step1,newK,genR,appR,obl,buildR,Value.cells,closeK,keepH,outV,retK,ret1,retC,RetV,Option.getD,runD,stepD,afterK,undef,simprocAttr,sxB,↓sxD,sxE,sxTab]))
 have hm3:(msL[i]).length≤3:=(show ∀x∈msL,x.length≤3 by decide) _ (List.getElem_mem hi)
 generalize msL[i]=m at *
 refine Stop.go ?_
 refine Go1.mk ?_;repeat' ((first|(with_reducible refine Go1.go ?_)|(((with_reducible refine isCall (f:=22) ?_);refine callA_nil (by kernel_rfl) ?_;refine (fail_nil m ?_)))|((with_reducible refine isCall (f:=31) ?_);refine callA ?_)|((with_reducible refine isCall0 (f:=31) ?_);refine callA0 ?_)|((with_reducible refine isCallS (f:=31) ?_);refine (one_ok 40 112 (by decide) u l _ tsL _ _ (by rfl) hu (by omega) (by decide) (by decide) (fun i hi=>Stop.mk ?_)))|(refine And.intro ?_ ?_;(try simp only[sxO]at *);omega)|fail)<;>(try simp (maxSteps:=1000000) only [tpH,faV,sbV,uo,n2,cE_ment,cE_kill,hasK_nil,bs_mk,bs_app,bs_ext,bs_size,bs_toList,bs_at,bs_cells,List.take_length,imp_ga,guard_pk,guard_pk2,↓hold_pre,awayP,runOps,regK,step1,newK,genR,appR,obl,buildR,Value.cells,closeK,keepH,outV,retK,ret1,retC,RetV,Option.getD,runD,stepD,afterK,undef,simprocAttr,sxB,↓sxD,sxE,sxTab]))
 have ht1:(tsL[i]).length=1:=(show ∀x∈tsL,x.length=1 by decide) _ (List.getElem_mem _)
 generalize tsL[i]=ts at *
 refine Stop.go ?_
 refine Go1.mk ?_;repeat' ((first|(with_reducible refine Go1.go ?_)|((with_reducible refine isCall (f:=21) ?_);refine callA ?_)|((with_reducible refine isCall0 (f:=21) ?_);refine callA0 ?_)|((with_reducible refine isCallS (f:=21) ?_);refine (nextI_ok 40 u l _ _ hu (by omega) (by omega) (by omega) (fun e he0 he1=>Stop.mk ?_)))|(refine And.intro ?_ ?_;(try simp only[sxO]at *);omega)|fail)<;>(try simp (maxSteps:=1000000) only [tpH,faV,sbV,uo,n2,cE_ment,cE_kill,hasK_nil,bs_mk,bs_app,bs_ext,bs_size,bs_toList,bs_at,bs_cells,List.take_length,imp_ga,guard_pk,guard_pk2,↓hold_pre,awayP,runOps,regK,step1,newK,genR,appR,obl,buildR,Value.cells,closeK,keepH,outV,retK,ret1,retC,RetV,Option.getD,runD,stepD,afterK,undef,simprocAttr,sxB,↓sxD,sxE,sxTab]))
 refine Stop.go ?_
 refine Go1.mk ?_;repeat' ((first|(with_reducible refine Go1.go ?_)|((with_reducible refine isCall (f:=21) ?_);refine callA ?_)|((with_reducible refine isCall0 (f:=21) ?_);refine callA0 ?_)|((with_reducible refine isCallS (f:=21) ?_);refine (nextI_ok 40 u l _ _ hu (by omega) (by omega) (by omega) (fun x hx0 hx1=>Stop.mk ?_)))|(refine And.intro ?_ ?_;(try simp only[sxO]at *);omega)|fail)<;>(try simp (maxSteps:=1000000) only [tpH,faV,sbV,uo,cE_ment,cE_kill,hasK_nil,bs_mk,bs_app,bs_ext,bs_size,bs_toList,bs_at,bs_cells,List.take_length,imp_ga,guard_pk,guard_pk2,↓hold_pre,awayP,runOps,regK,step1,newK,genR,appR,obl,buildR,Value.cells,closeK,keepH,outV,retK,ret1,retC,RetV,Option.getD,runD,stepD,afterK,undef,simprocAttr,sxB,↓sxD,sxE,sxTab]))
 obtain ⟨y,rfl⟩:=Int.eq_ofNat_of_zero_le hx0
 have wy:IntKind.i64.wrap ((least:Int)+(y:Int))=((least+y:Nat):Int):=by rw[wrap_id (by omega) (by omega)];omega
 refine Stop.go ?_
 refine Go1.mk ?_;repeat' ((first|(with_reducible refine Go1.go ?_)|(refine And.intro ?_ ?_;(try simp only[sxO]at *);omega)|fail)<;>(try simp (maxSteps:=1000000) only [tpH,faV,sbV,wy,uo,cE_ment,cE_kill,hasK_nil,bs_mk,bs_app,bs_ext,bs_size,bs_toList,bs_at,bs_cells,List.take_length,imp_ga,guard_pk,guard_pk2,↓hold_pre,awayP,runOps,regK,step1,newK,genR,appR,obl,buildR,Value.cells,closeK,keepH,outV,retK,ret1,retC,RetV,Option.getD,runD,stepD,afterK,undef,simprocAttr,sxB,↓sxD,sxE,sxTab]))
 refine ⟨fun d z=>∃c p' X,d=c∧c+X.length=least+y∧p'≤p+4+2*X.length∧(∀s∈X,clOk s)∧z=fuSt M u p' ts m e c X.length X,⟨least+y,fuSt M u (p+1+1+1+1) ts m e (least+y) 0 [],Le.trans (le_sub (z:=fu0 M u (p+1+1+1+1) ts m e (least+y)) ⟨rfl,rfl,rfl,rfl,trivial⟩ ⟨rfl,rfl,rfl,trivial⟩ rfl rfl rfl (keepLt_of rfl)) (fu0_le _ _ _ _ _ _ _),⟨_,_,[],rfl,rfl,by simp,(fun s hs=>by cases hs),rfl⟩⟩,?_⟩
 rintro d z ⟨c,p',X,rfl,hcX,hp',hX,rfl⟩
 have lX:=clF_len X
 by_cases hc:0<d
 case neg=>
  obtain rfl:d=0:=by omega
  have d1:decide ((0:Int)<((0:Nat):Int))=false:=by decide
  refine Go1.mk ?_;repeat' ((first|(with_reducible refine Go1.go ?_)|(refine And.intro ?_ ?_;(try simp only[sxO]at *);omega)|fail)<;>(try simp (maxSteps:=1000000) only [tpH,fuSt,d1,lX,clF_ment,clF_kill,uo,hasK_nil,bs_mk,bs_app,bs_ext,bs_size,bs_toList,bs_at,bs_cells,List.take_length,imp_ga,guard_pk,guard_pk2,↓hold_pre,awayP,runOps,regK,step1,newK,genR,appR,obl,buildR,Value.cells,closeK,keepH,outV,retK,ret1,retC,RetV,Option.getD,runD,stepD,afterK,undef,simprocAttr,sxB,↓sxD,sxE,sxTab]))
  refine FrzF.fail (X.flatMap clC) rfl (by rw[flat_len (z:=3) (fun _=>rfl)]) rfl rfl (fun v M'' a b g=>?_)
  exact hK ([112],ts,e,m,v,X) M'' p' a (by omega) ⟨rfl,ht1,he0,by show e≤1;omega,by show least≤X.length;omega,by show X.length≤least+3;omega⟩ ⟨b,by show X.length<_;omega,by show m.length<_;omega,hX⟩ g
 have d1:decide ((0:Int)<(d:Int))=true:=by simp;omega
 have wd:IntKind.i64.wrap ((d:Int)-1)=((d-1:Nat):Int):=by rw[wrap_id (by omega) (by omega)];omega
 refine Go1.mk ?_;repeat' ((first|(with_reducible refine Go1.go ?_)|((with_reducible refine isCall (f:=31) ?_);refine callA ?_)|((with_reducible refine isCall0 (f:=31) ?_);refine callA0 ?_)|((with_reducible refine isCallS (f:=31) ?_);refine (one_ok 40 130 (by decide) u l _ fnL _ _ (by rfl) hu (by omega) (by decide) (by decide) (fun i hi=>Stop.mk ?_)))|((with_reducible refine isDraw [some 27,some 28,some 29,some 30,some 31,some 32,some 33,some 34,some 35,some 36,some 37,none] (by decide) ?_);refine draw_rule [(0,[]),(1,[]),(2,[1]),(3,[1]),(5,[1]),(4,[1]),(6,[1]),(7,[1]),(8,[1]),(9,[]),(10,[]),(11,[])] [[],[0],[],[],[2,3],[],[2,3,4,5],[2,3,4,5,6],[2,3,4,5,6,7],[0,1,2,3,4,5,6,7,8],[0,1,2,3,4,5,6,7,8,9],[0,1,2,3,4,5,6,7,8,9,10]] [27,28,29,30,31,32,33,34,35] [] (by kernel_rfl) (by kernel_rfl) (by kernel_rfl) (by kernel_rfl) (by exact trivial) ?_)|(refine And.intro ?_ ?_;(try simp only[sxO]at *);omega)|fail)<;>(try simp (maxSteps:=1000000) only [tpH,fuSt,d1,n3,lX,clF_ment,clF_kill,cE_ment,cE_kill,uo,hasK_nil,bs_mk,bs_app,bs_ext,bs_size,bs_toList,bs_at,bs_cells,List.take_length,imp_ga,guard_pk,guard_pk2,↓hold_pre,awayP,runOps,regK,step1,newK,genR,appR,obl,buildR,Value.cells,closeK,keepH,outV,retK,ret1,retC,RetV,Option.getD,runD,stepD,afterK,undef,simprocAttr,sxB,↓sxD,sxE,sxTab]))
 have hf1:(fnL[i]).length=1:=(show ∀x∈fnL,x.length=1 by decide) _ (List.getElem_mem _)
 generalize fnL[i]=fn at *
 refine Stop.go ?_
 refine Go1.mk ?_;repeat' ((first|(with_reducible refine Go1.go ?_)|((with_reducible refine isCall (f:=21) ?_);refine callA ?_)|((with_reducible refine isCall0 (f:=21) ?_);refine callA0 ?_)|((with_reducible refine isCallS (f:=21) ?_);refine (nextI_ok 40 u l _ _ hu (by omega) (by omega) (by omega) (fun q hq0 hq1=>Stop.mk ?_)))|(refine And.intro ?_ ?_;(try simp only[sxO]at *);omega)|fail)<;>(try simp (maxSteps:=1000000) only [tpH,fuSt,sbV,d1,n3,lX,clF_ment,clF_kill,cE_ment,cE_kill,uo,hasK_nil,bs_mk,bs_app,bs_ext,bs_size,bs_toList,bs_at,bs_cells,List.take_length,imp_ga,guard_pk,guard_pk2,↓hold_pre,awayP,runOps,regK,step1,newK,genR,appR,obl,buildR,Value.cells,closeK,keepH,outV,retK,ret1,retC,RetV,Option.getD,runD,stepD,afterK,undef,simprocAttr,sxB,↓sxD,sxE,sxTab]))
 have hs:=clF_app X (fn,[120,46,103,111],q)
 have hs:clF X++[.ext (.string (bs fn)),.ext (.string (bs [120,46,103,111])),.ext (.int .i64 q)]=clF (X++[(fn,[120,46,103,111],q)]):=hs
 refine Stop.go ?_
 refine Go1.mk ?_;repeat' ((first|(with_reducible refine Go1.go ?_)|(refine And.intro ?_ ?_;(try simp only[sxO]at *);omega)|fail)<;>(try simp (maxSteps:=1000000) only [tpH,fuSt,sbV,d1,wd,hs,maxLen,lX,clF_ment,clF_kill,cE_ment,cE_kill,uo,Nat.mul_one,hasK_nil,bs_mk,bs_app,bs_ext,bs_size,bs_toList,bs_at,bs_cells,List.take_length,imp_ga,guard_pk,guard_pk2,↓hold_pre,awayP,runOps,regK,step1,newK,genR,appR,obl,buildR,Value.cells,closeK,keepH,outV,retK,ret1,retC,RetV,Option.getD,runD,stepD,afterK,undef,simprocAttr,sxB,↓sxD,sxE,sxTab]))
 exact ⟨d-1,fuSt M u (p'+1+1) ts m e (d-1) (X++[(fn,[120,46,103,111],q)]).length (X++[(fn,[120,46,103,111],q)]),by omega,le_sub ⟨rfl,rfl,rfl,rfl,trivial⟩ ⟨by simp[lkH,fuSt],by simp[lkH,fuSt],rfl,rfl,trivial⟩ rfl rfl rfl (keepLt_of rfl),d-1,p'+1+1,_,rfl,by rw[List.length_append,List.length_singleton];omega,by rw[List.length_append,List.length_singleton];omega,(fun s hs=>by
  rcases List.mem_append.1 hs with hs|hs
  ·exact hX s hs
  ·rw[List.mem_singleton.1 hs];exact ⟨by show fn.length≤_;omega,by show 4≤_;decide⟩),rfl⟩
end
theorem GRF.move{M' M'' M3:Mem}{U:Value}{O:List GO}(h:GRF M' M'' U O)(h3:∀b,M' b=none→M3 b=M'' b):GRV M3 U O:=by
 obtain ⟨L,h1,h2,h4,h5⟩:=h
 exact ⟨L,SlM.move h1 h2 h3,fun g hg=>⟨(h4 g hg).1.1.move (h4 g hg).2.1 h3,(h4 g hg).1.2.move (h4 g hg).2.2 h3⟩,h5⟩
theorem isPt_add{v:Value}(o:Nat)(h:isPt v=true):isPt (addP v o)=true:=by
 unfold isPt at h
 split at h
 ·rfl
 ·cases h
theorem addP_addP{v:Value}(a b:Nat)(h:isPt v=true):addP (addP v a) b=addP v (a+b):=by
 unfold isPt at h
 split at h
 ·by_cases ha:a=0<;>by_cases hb:b=0<;>simp[addP,Addr.add,ha,hb,Nat.add_assoc]
 ·cases h
def kn1(v:Value):Fa:=([112],[116],0,[97,32,49],v,stkF [[102],[103]])
def kn2(v:Value):Fa:=([112],[116],0,[98],v,stkF [[102],[103]])
def kn3(v:Value):Fa:=([112],[116],0,[98],v,stkF [])
def knC:List Bst:=[[102,64,120,46,103,111],[103,64,120,46,103,111]]
def knT:List (Bst×List Bst):=[([97,32,35],knC),([98],knC),([98],[])]
theorem kn_T(a b c:Value):[kn1 a,kn2 b,kn3 c].map faB=knT:=by
 show [faB (kn1 (.bool true)),faB (kn2 (.bool true)),faB (kn3 (.bool true))]=knT
 decide +kernel
theorem kn_E2(a b c:Value):sgnE [kn1 a,kn2 b,kn3 c] 2=0:=by
 show sgnE [kn1 (.bool true),kn2 (.bool true),kn3 (.bool true)] 2=0
 decide +kernel
theorem kn_E3(a b c:Value):sgnE [kn1 a,kn2 b,kn3 c] 3=0:=by
 show sgnE [kn1 (.bool true),kn2 (.bool true),kn3 (.bool true)] 3=0
 decide +kernel
theorem lnk_iff{T:List (Bst×List Bst)}{d:Int}{i k:Nat}:lnkR T d i k↔lkB (sgK T d i) (sgK T d k)=true:=lkB_iff.symm
theorem kn_l2:Lab 3 (lnkR knT 2) fun _=>0:=by
 have h01:lnkR knT 2 0 1:=lnk_iff.2 (by decide +kernel)
 have h12:lnkR knT 2 1 2:=lnk_iff.2 (by decide +kernel)
 have c0:∀i,i<3→Conn (lnkR knT 2) 3 0 i:=fun i hi=>by
  match i,hi with
  | 0,_=>exact .refl (by decide)
  | 1,_=>exact .one (by decide) (by decide) h01
  | 2,_=>exact (Conn.one (by decide) (by decide) h01).trans (.one (by decide) (by decide) h12)
 exact ⟨fun i _=>Nat.zero_le _,fun _ _=>rfl,fun _ _ _ _ _=>rfl,fun i k hi hk _=>((c0 i hi).symm lnkR_symm).trans (c0 k hk)⟩
theorem kn_l3:Lab 3 (lnkR knT 3) fun i=>if i=0 then 0 else 1:=by
 have h12:lnkR knT 3 1 2:=lnk_iff.2 (by decide +kernel)
 have n01:¬lnkR knT 3 0 1:=fun h=>absurd (lnk_iff.1 h) (by decide +kernel)
 have n02:¬lnkR knT 3 0 2:=fun h=>absurd (lnk_iff.1 h) (by decide +kernel)
 refine ⟨fun i hi=>by split<;>omega,fun i hi=>by split<;>simp,fun i k hi hk hR=>?_,fun i k hi hk e=>?_⟩
 ·match i,k,hi,hk with
  | 0,0,_,_=>rfl
  | 0,1,_,_=>exact absurd hR n01
  | 0,2,_,_=>exact absurd hR n02
  | 1,0,_,_=>exact absurd (lnkR_symm _ _ hR) n01
  | 2,0,_,_=>exact absurd (lnkR_symm _ _ hR) n02
  | 1,1,_,_=>rfl
  | 1,2,_,_=>rfl
  | 2,1,_,_=>rfl
  | 2,2,_,_=>rfl
 ·match i,k,hi,hk,e with
  | 0,0,_,_,_=>exact .refl (by decide)
  | 1,1,_,_,_=>exact .refl (by decide)
  | 2,2,_,_,_=>exact .refl (by decide)
  | 1,2,_,_,_=>exact .one (by decide) (by decide) h12
  | 2,1,_,_,_=>exact .one (by decide) (by decide) (lnkR_symm _ _ h12)
def knO2:List GO:=[(([97,32,35],knC),[0,1,2])]
def knO3:List GO:=[(([97,32,35],knC),[0]),(([98],[]),[1,2])]
theorem kn_g2:GrpO knT 2 knO2:=⟨_,kn_l2,by decide +kernel⟩
theorem kn_g3:GrpO knT 3 knO3:=⟨_,kn_l3,by decide +kernel⟩
theorem knO3_ok:okO knO3:=⟨by decide,fun o ho=>by
 have:okB o.1.1 o.1.2∧o.2.length≤64∧o.1.2.length<1000000:=by
  rcases List.mem_cons.1 ho with rfl|ho
  ·exact ⟨⟨by decide,by decide,by decide⟩,by decide,by decide⟩
  ·rw[List.mem_singleton.1 ho];exact ⟨⟨by decide,by decide,by decide⟩,by decide,by decide⟩
 exact this⟩
section
variable {M:Mem}{K:AV→Hp→Mem→Prop}
theorem gsplit_bor(k n:Nat)(T:TypeId)(L:List Fa)(d:Int)(hn:n=L.length)(ho:∀f∈L,faOk M f)(hb:L.length<1000000)
  (hK1:sgnE L d≠0→∀M',Mem.le M M'→K (.ext (.tuple #[.slice none 0 0,.int .i64 (sgnE L d)])) [(k,T,faF L)] M')
  (hK2:sgnE L d=0→∀u' M' O,Mem.le M M'→GrpO (L.map faB) d O→GRV M' u' O→K (.ext (.tuple #[u',.int .i64 0])) [(k,T,faF L)] M') :
  CallS Try.prog 16 [.slo k 0 n 5,.ext (.int .i64 d)] [(k,T,faF L)] M [] K:=by
 refine CallS.bor ⟨⟨_,rfl⟩,trivial⟩ fun us M' hM hb'=>?_
 obtain ⟨v1,_,rfl,hv,_,_,rfl,rfl,rfl⟩:=hb'
 have g1:IsR M' 5 faC v1 L:=by
  have h:=hv T (L.flatMap faC) (by simp[lkH,faF]) (by rw[flat_len (z:=5) (fun _=>rfl)];omega)
  rw[List.drop_zero,List.take_of_length_le (by rw[flat_len (z:=5) (fun _=>rfl)];omega)]at h
  unfold IsR
  rw[←hn];exact h
 refine gsplit_ok v1 L d g1 (fun f hf=>⟨(ho f hf).1.le hM,(ho f hf).2⟩) hb (fun he M2 c1=>⟨fun j hj=>rfl,fun M3 h5 h6 _=>hK1 he M3 h5⟩) (fun he u' M2 O c1 c2 c3=>⟨fun j hj=>rfl,fun M3 h5 h6 _=>hK2 he u' M3 O h5 c2 (c3.move h6)⟩)
theorem known27_ok(hK:∀M',Mem.le M M'→K (.ext (.bool true)) [] M'):CallS Try.prog 9 [] [] M [] K:=by
 refine inlS (cs:=[]) Try.mixed Try.func9 rfl (by kernel_rfl) 0 rfl rfl ?_
 simp only[Try.f9]
 have n1:[AV.ext (.string (bs [102])),.ext (.string (bs [103]))]=cE sbV [[102],[103]]:=rfl
 refine Go1.mk ?_;repeat' ((first|(with_reducible refine Go1.go ?_)|((with_reducible refine isCall (f:=22) ?_);refine callA ?_)|((with_reducible refine isCallS (f:=22) ?_);refine (fail_bor [97,32,49] 6 2 _ [[102],[103]] rfl (by decide) (fun v1 M1 m1 g1=>Stop.mk ?_)))|(refine And.intro ?_ ?_;(try simp only[sxO]at *);omega)|fail)<;>(try simp (maxSteps:=1000000) only [n1,cE_ment,cE_kill,hasK_nil,bs_mk,bs_app,bs_ext,bs_size,bs_toList,bs_at,bs_cells,List.take_length,imp_ga,guard_pk,guard_pk2,↓hold_pre,awayP,runOps,regK,step1,newK,genR,appR,obl,buildR,Value.cells,closeK,keepH,outV,retK,ret1,retC,RetV,Option.getD,runD,stepD,afterK,undef,simprocAttr,sxB,↓sxD,sxE,sxTab]))
 have m1:Mem.le M M1:=m1
 have o1:=g1.one
 refine Stop.go ?_
 refine Go1.mk ?_;repeat' ((first|(with_reducible refine Go1.go ?_)|((with_reducible refine isCall (f:=22) ?_);refine callA ?_)|((with_reducible refine isCallS (f:=22) ?_);refine (fail_bor [98] 8 2 _ [[102],[103]] rfl (by decide) (fun v2 M2 m2 g2=>Stop.mk ?_)))|(refine And.intro ?_ ?_;(try simp only[sxO]at *);omega)|fail)<;>(try simp (maxSteps:=1000000) only [n1,faV,o1,cE_ment,cE_kill,hasK_nil,bs_mk,bs_app,bs_ext,bs_size,bs_toList,bs_at,bs_cells,List.take_length,imp_ga,guard_pk,guard_pk2,↓hold_pre,awayP,runOps,regK,step1,newK,genR,appR,obl,buildR,Value.cells,closeK,keepH,outV,retK,ret1,retC,RetV,Option.getD,runD,stepD,afterK,undef,simprocAttr,sxB,↓sxD,sxE,sxTab]))
 have m2:Mem.le M1 M2:=m2
 have o2:=g2.one
 refine Stop.go ?_
 refine Go1.mk ?_;repeat' ((first|(with_reducible refine Go1.go ?_)|(((with_reducible refine isCall (f:=22) ?_);refine callA_nil (by kernel_rfl) ?_;refine (fail_ok [98] (.slice none 0 0) [] (isL_nil _ _ _) (by decide) (fun v3 M3 m3 g3 _=>Stop.mk ?_))))|(refine And.intro ?_ ?_;(try simp only[sxO]at *);omega)|fail)<;>(try simp (maxSteps:=1000000) only [n1,faV,o1,o2,cE_ment,cE_kill,hasK_nil,bs_mk,bs_app,bs_ext,bs_size,bs_toList,bs_at,bs_cells,List.take_length,imp_ga,guard_pk,guard_pk2,↓hold_pre,awayP,runOps,regK,step1,newK,genR,appR,obl,buildR,Value.cells,closeK,keepH,outV,retK,ret1,retC,RetV,Option.getD,runD,stepD,afterK,undef,simprocAttr,sxB,↓sxD,sxE,sxTab]))
 have m3:Mem.le M2 M3:=m3
 have o3:=g3.one
 have n4:faF [kn1 v1,kn2 v2,kn3 v3]=[AV.ext (.string (bs [112])),.ext (.string (bs [116])),.ext (.int .i64 0),.ext (.string (bs [97,32,49])),.ext v1,.ext (.string (bs [112])),.ext (.string (bs [116])),.ext (.int .i64 0),.ext (.string (bs [98])),.ext v2,.ext (.string (bs [112])),.ext (.string (bs [116])),.ext (.int .i64 0),.ext (.string (bs [98])),.ext v3]:=rfl
 have ho:∀f∈[kn1 v1,kn2 v2,kn3 v3],faOk M3 f:=by
  have hc:∀L:List Bst,L=[[102],[103]]∨L=[]→∀c∈stkF L,clOk c:=by
   rintro L (rfl|rfl)
   ·intro c hc
    have h:∀c∈stkF [[102],[103]],c.1.length≤140737488351232∧c.2.1.length≤140737488351232:=by decide
    exact h c hc
   ·intro c hc;cases hc
  intro f hf
  rcases List.mem_cons.1 hf with rfl|hf
  ·exact ⟨(g1.le m2).le m3,by show (stkF [[102],[103]]).length<_;decide,by show ([97,32,49]:Bst).length<_;decide,hc _ (.inl rfl)⟩
  rcases List.mem_cons.1 hf with rfl|hf
  ·exact ⟨g2.le m3,by show (stkF [[102],[103]]).length<_;decide,by show ([98]:Bst).length<_;decide,hc _ (.inl rfl)⟩
  ·rw[List.mem_singleton.1 hf]
   exact ⟨g3,by show (stkF []).length<_;decide,by show ([98]:Bst).length<_;decide,hc _ (.inr rfl)⟩
 have e2:=kn_E2 v1 v2 v3
 have e3:=kn_E3 v1 v2 v3
 have eT:=kn_T v1 v2 v3
 refine Stop.go ?_
 refine Go1.mk ?_;repeat' ((first|(with_reducible refine Go1.go ?_)|((with_reducible refine isCall (f:=16) ?_);refine callA ?_)|((with_reducible refine isCallS (f:=16) ?_);refine (gsplit_bor 11 3 _ [kn1 v1,kn2 v2,kn3 v3] 2 rfl ho (by simp) (fun h=>absurd e2 h) (fun _ x2 M4 O2 m4 hO2 gO2=>Stop.mk ?_)))|(refine And.intro ?_ ?_;(try simp only[sxO]at *);omega)|fail)<;>(try simp (maxSteps:=1000000) only [n1,faV,o1,o2,o3,←n4,faF_ment,faF_kill,cE_ment,cE_kill,hasK_nil,bs_mk,bs_app,bs_ext,bs_size,bs_toList,bs_at,bs_cells,List.take_length,imp_ga,guard_pk,guard_pk2,↓hold_pre,awayP,runOps,regK,step1,newK,genR,appR,obl,buildR,Value.cells,closeK,keepH,outV,retK,ret1,retC,RetV,Option.getD,runD,stepD,afterK,undef,simprocAttr,sxB,↓sxD,sxE,sxTab]))
 have m4:Mem.le M3 M4:=m4
 rw[eT]at hO2
 obtain rfl:=hO2.uniq kn_g2
 refine Stop.go ?_
 obtain ⟨L2,b1,b2,b3⟩:=gO2
 have p1:=b1.one
 refine Go1.mk ?_;repeat' ((first|(with_reducible refine Go1.go ?_)|((with_reducible refine isCall (f:=16) ?_);refine callA ?_)|((with_reducible refine isCallS (f:=16) ?_);refine (gsplit_bor 11 3 _ [kn1 v1,kn2 v2,kn3 v3] 3 rfl (fun f hf=>⟨(ho f hf).1.le m4,(ho f hf).2⟩) (by simp) (fun h=>absurd e3 h) (fun _ x3 M5 O3 m5 hO3 gO3=>Stop.mk ?_)))|(refine And.intro ?_ ?_;(try simp only[sxO]at *);omega)|fail)<;>(try simp (maxSteps:=1000000) only [o1,o2,o3,p1,faF_ment,cE_ment,cE_kill,hasK_nil,bs_mk,bs_app,bs_ext,bs_size,bs_toList,bs_at,bs_cells,List.take_length,imp_ga,guard_pk,guard_pk2,↓hold_pre,awayP,runOps,regK,step1,newK,genR,appR,obl,buildR,Value.cells,closeK,keepH,outV,retK,ret1,retC,RetV,Option.getD,runD,stepD,afterK,undef,simprocAttr,sxB,↓sxD,sxE,sxTab]))
 have m5:Mem.le M4 M5:=m5
 rw[eT]at hO3
 obtain rfl:=hO3.uniq kn_g3
 have b1:=b1.le m5
 have hl2:L2.length=1:=by have:=congrArg List.length b3;simpa [knO2] using this
 have hz:0<L2.length:=by omega
 have p2:=b1.len
 have p3:=b1.sl
 have p4:=b1.nn hz
 have p5:=b1.pt hz
 rw[hl2]at p2
 have p8:=isPt_add 0 p5
 have p9:addP (addP (elemP x2 3 0) 0) 0=addP (elemP x2 3 0) 0:=addP_addP 0 0 p5
 have p6:lookM Try.prog 25 M5 (addP (elemP x2 3 0) 2)=some L2[0].u:=b1.atF (P:=Try.prog) (T:=25) (fun _=>rfl) tk25 tz25 hz (o:=2) (v:=L2[0].u) rfl
 have p7:lookM Try.prog 9 M5 (addP (elemP x2 3 0) 0)=some (.string (bs L2[0].m)):=b1.atF (P:=Try.prog) (T:=9) (fun _=>rfl) tk9 tz9 hz (o:=0) (v:=.string (bs L2[0].m)) rfl
 have hg:L2[0].o=(([97,32,35],knC),[0,1,2]):=by
  have h:(L2.map GX.o)[0]? = knO2[0]?:=by rw[b3]
  rw[List.getElem?_map,List.getElem?_eq_getElem hz]at h
  exact Option.some.inj h
 have hgl:L2[0].l=[0,1,2]:=congrArg Prod.snd hg
 have hgm:L2[0].m=[97,32,35]:=congrArg (fun x=>x.1.1) hg
 have q1:=(b2 _ (List.getElem_mem hz)).2.le m5
 have q2:=q1.one
 have q3:=q1.len
 have q4:=q1.sl
 rw[hgl]at q3
 rw[hgm]at p7
 have q3:slen L2[0].u=3:=q3
 clear hg hgl hgm
 generalize L2[0].u=gu at *
 have c1:x3.oneCell'=true:=by obtain ⟨_,h,_⟩:=gO3;exact h.one
 have hl3:slen x3=2∧isSl x3=true:=by
  obtain ⟨L3,h1,_,h3⟩:=gO3
  refine ⟨?_,h1.sl⟩
  rw[h1.len]
  have:=congrArg List.length h3;simpa [knO3] using this
 obtain ⟨c2,c3⟩:=hl3
 have elr:lrgO knO3=1:=by decide +kernel
 refine Stop.go ?_
 refine Go1.mk ?_;repeat' ((first|(with_reducible refine Go1.go ?_)|(((with_reducible refine isCall (f:=26) ?_);refine callA_nil (by kernel_rfl) ?_;refine (plargest_ok x3 knO3 gO3 knO3_ok (Stop.mk ?_))))|(refine And.intro ?_ ?_;(try simp only[sxO]at *);omega)|fail)<;>(try simp (maxSteps:=1000000) only [o1,o2,o3,p1,p2,p3,p4,p5,p6,p7,p8,p9,q2,q3,q4,c1,c2,c3,faF_ment,cE_ment,cE_kill,hasK_nil,bs_mk,bs_app,bs_ext,bs_size,bs_toList,bs_at,bs_cells,List.take_length,imp_ga,guard_pk,guard_pk2,↓hold_pre,awayP,runOps,regK,step1,newK,genR,appR,obl,buildR,Value.cells,closeK,keepH,outV,retK,ret1,retC,RetV,Option.getD,runD,stepD,afterK,undef,simprocAttr,sxB,↓sxD,sxE,sxTab]))
 rw[elr]
 refine Stop.go ?_
 refine Go1.mk ?_;repeat' ((first|(with_reducible refine Go1.go ?_)|(refine And.intro ?_ ?_;(try simp only[sxO]at *);omega)|fail)<;>(try simp (maxSteps:=1000000) only [hasK_nil,bs_mk,bs_app,bs_ext,bs_size,bs_toList,bs_at,bs_cells,List.take_length,imp_ga,guard_pk,guard_pk2,↓hold_pre,awayP,runOps,regK,step1,newK,genR,appR,obl,buildR,Value.cells,closeK,keepH,outV,retK,ret1,retC,RetV,Option.getD,runD,stepD,afterK,undef,simprocAttr,sxB,↓sxD,sxE,sxTab]))
 exact hK M5 (m1.trans (m2.trans (m3.trans (m4.trans m5))))
end
section
variable {M:Mem}{K:AV→Hp→Mem→Prop}
theorem isR_one{u:Value}{l:List Bst}(h:IsR M 1 (fun s:Bst=>[sbV s]) u l):IsL M sbV u l:=by
 have e:∀l:List Bst,l.flatMap (fun s:Bst=>[sbV s])=l.map sbV:=fun l=>by
  induction l with
  | nil=>rfl
  | cons a l ih=>simp only[List.flatMap_cons,List.map_cons,ih,List.singleton_append]
 unfold IsR at h
 unfold IsL
 rw[e]at h;exact h
theorem dsign_ok{least:Nat}(f:Fa)(hd:drF least f)(hl:least≤50)(hf:faOk M f)(hK:∀u' M',Mem.le M M'→IsL M' sbV u' (faB f).2→FreshS M u'→K (.ext (sgT (faB f).1 u' 0)) [] M'):CallS Try.prog 10 [.ext (faV f.1 f.2.1 f.2.2.1 f.2.2.2.1 f.2.2.2.2.1)] [] M [] K:=by
 obtain ⟨p,t,e,m,u,X⟩:=f
 obtain ⟨a1,a2,a3,a4⟩:=hf
 obtain ⟨h1,h2,h3,h4,_,h5⟩:=hd
 have h1:p=[112]:=h1
 have h2:t.length=1:=h2
 have h3:0≤e:=h3
 have h4:e≤1:=h4
 have h5:X.length≤least+3:=h5
 have e1:usB p t=true:=by unfold usB;rw[h1,h2];decide
 have e2:plB e=true:=by unfold plB;simp[h3];omega
 have e3:(usB p t&&plB e)=true:=by rw[e1,e2];rfl
 exact sign_ok p t e m u X a1 a2 a3 a4 (fun h=>by rw[e3]at h;cases h) (fun _ h=>by omega) fun _ _ u' M' c1 c2 c3=>hK u' M' c1 c2 c3
theorem keys27_ok(m:Bst)(y v0:Value)(C:List Bst)(l0:List Int)(d:Int)(hy:IsL M sbV y C)(hm:m.length≤140737488351232)(hC:∀c∈C,c.length≤140737488351232)(hl:IsL M intV64 v0 l0)(hK:∀M',Mem.le M M'→K (.ext (.bool true)) [] M'):CallS Try.prog 3 [.ext (.agg #[.string (bs m),y]),.ext v0,.ext (.int .i64 d)] [] M [] K:=by
 refine inlS (cs:=[]) Try.mixed Try.func3 rfl (by kernel_rfl) 17 rfl rfl ?_
 simp only[Try.f3]
 have yo:=hy.one
 have yl:=hy.len
 have ys:=hy.sl
 have vo:=hl.one
 have es:∀l:Bst,(bs l).size=l.length:=bs_size
 by_cases hc1:200<C.length
 ·have d1:decide ((200:Int)<(C.length:Int))=true:=by rw[decide_eq_true_eq];omega
  refine Go1.mk ?_;repeat' ((first|(with_reducible refine Go1.go ?_)|((first|((with_reducible refine isCall (f:=9) ?_);refine callA_nil (by kernel_rfl) ?_)|((with_reducible refine isCall0 (f:=9) ?_);refine callA0_nil (by kernel_rfl) ?_));refine (known27_ok (fun M1 m1=>Stop.mk ?_)))|(refine And.intro ?_ ?_;(try simp only[sxO]at *);omega)|fail)<;>(try simp (maxSteps:=1000000) only [yo,yl,ys,vo,d1,gt_iff_lt,hasK_nil,bs_mk,bs_app,bs_ext,bs_size,bs_toList,bs_at,bs_cells,List.take_length,imp_ga,guard_pk,guard_pk2,↓hold_pre,awayP,runOps,regK,step1,newK,genR,appR,obl,buildR,Value.cells,closeK,keepH,outV,retK,ret1,retC,RetV,Option.getD,runD,stepD,afterK,undef,simprocAttr,sxB,↓sxD,sxE,sxTab]))
  refine Stop.go ?_
  refine Go1.mk ?_;repeat' ((first|(with_reducible refine Go1.go ?_)|(refine And.intro ?_ ?_;(try simp only[sxO]at *);omega)|fail)<;>(try simp (maxSteps:=1000000) only [hasK_nil,↓hold_pre,awayP,runOps,regK,step1,newK,genR,appR,obl,buildR,Value.cells,closeK,keepH,outV,retK,ret1,retC,RetV,Option.getD,runD,stepD,afterK,undef,simprocAttr,sxB,↓sxD,sxE,sxTab]))
  exact hK _ m1
 have d1:decide ((200:Int)<(C.length:Int))=false:=by rw[decide_eq_false_iff_not];omega
 by_cases hc2:3000<m.length
 ·have d2:decide ((3000:Int)<(m.length:Int))=true:=by rw[decide_eq_true_eq];omega
  refine Go1.mk ?_;repeat' ((first|(with_reducible refine Go1.go ?_)|((first|((with_reducible refine isCall (f:=9) ?_);refine callA_nil (by kernel_rfl) ?_)|((with_reducible refine isCall0 (f:=9) ?_);refine callA0_nil (by kernel_rfl) ?_));refine (known27_ok (fun M1 m1=>Stop.mk ?_)))|(refine And.intro ?_ ?_;(try simp only[sxO]at *);omega)|fail)<;>(try simp (maxSteps:=1000000) only [yo,yl,ys,vo,d1,d2,es,gt_iff_lt,hasK_nil,bs_mk,bs_app,bs_ext,bs_size,bs_toList,bs_at,bs_cells,List.take_length,imp_ga,guard_pk,guard_pk2,↓hold_pre,awayP,runOps,regK,step1,newK,genR,appR,obl,buildR,Value.cells,closeK,keepH,outV,retK,ret1,retC,RetV,Option.getD,runD,stepD,afterK,undef,simprocAttr,sxB,↓sxD,sxE,sxTab]))
  refine Stop.go ?_
  refine Go1.mk ?_;repeat' ((first|(with_reducible refine Go1.go ?_)|(refine And.intro ?_ ?_;(try simp only[sxO]at *);omega)|fail)<;>(try simp (maxSteps:=1000000) only [hasK_nil,↓hold_pre,awayP,runOps,regK,step1,newK,genR,appR,obl,buildR,Value.cells,closeK,keepH,outV,retK,ret1,retC,RetV,Option.getD,runD,stepD,afterK,undef,simprocAttr,sxB,↓sxD,sxE,sxTab]))
  exact hK _ m1
 have d2:decide ((3000:Int)<(m.length:Int))=false:=by rw[decide_eq_false_iff_not];omega
 have hB:okB m C:=⟨by omega,by omega,fun c hc=>by have:=hC c hc;omega⟩
 refine Go1.mk ?_;repeat' ((first|(with_reducible refine Go1.go ?_)|((with_reducible refine isCall (f:=11) ?_);refine callA ?_)|((with_reducible refine isCallS (f:=11) ?_);refine (failure_ok v0 l0 0 0 hl (by decide) (by decide) (fun f M1 p1 m1 hp1 hd hf _=>Stop.mk ?_)))|(refine And.intro ?_ ?_;(try simp only[sxO]at *);omega)|fail)<;>(try simp (maxSteps:=1000000) only [yo,yl,ys,vo,d1,d2,es,gt_iff_lt,hasK_nil,bs_mk,bs_app,bs_ext,bs_size,bs_toList,bs_at,bs_cells,List.take_length,imp_ga,guard_pk,guard_pk2,↓hold_pre,awayP,runOps,regK,step1,newK,genR,appR,obl,buildR,Value.cells,closeK,keepH,outV,retK,ret1,retC,RetV,Option.getD,runD,stepD,afterK,undef,simprocAttr,sxB,↓sxD,sxE,sxTab]))
 have m1:Mem.le M M1:=m1
 have hBf:=okB_fa hf
 have fo:=hf.1.one
 refine Stop.go ?_
 refine Go1.mk ?_;repeat' ((first|(with_reducible refine Go1.go ?_)|(((with_reducible refine isCall (f:=10) ?_);refine callA_nil (by kernel_rfl) ?_;refine (dsign_ok f hd (by decide) hf (fun su M2 m2 g2 _=>Stop.mk ?_))))|(refine And.intro ?_ ?_;(try simp only[sxO]at *);omega)|fail)<;>(try simp (maxSteps:=1000000) only [tpH,faV,yo,yl,ys,vo,fo,hasK_nil,bs_mk,bs_app,bs_ext,bs_size,bs_toList,bs_at,bs_cells,List.take_length,imp_ga,guard_pk,guard_pk2,↓hold_pre,awayP,runOps,regK,step1,newK,genR,appR,obl,buildR,Value.cells,closeK,keepH,outV,retK,ret1,retC,RetV,Option.getD,runD,stepD,afterK,undef,simprocAttr,sxB,↓sxD,sxE,sxTab]))
 have m2:Mem.le M1 M2:=m2
 have so:=g2.one
 refine Stop.go ?_
 obtain ⟨sm,hsm⟩:∃sm,sm=(faB f).1:=⟨_,rfl⟩
 obtain ⟨sC,hsC⟩:∃sC,sC=(faB f).2:=⟨_,rfl⟩
 rw[←hsm,←hsC]at hBf
 rw[←hsC]at g2
 rw[←hsm]
 refine Go1.mk ?_;repeat' ((first|(with_reducible refine Go1.go ?_)|(((with_reducible refine isCall0 (f:=13) ?_);refine callA0_nil (by kernel_rfl) ?_;refine (gkeys_ok m y C d (hy.le (m1.trans m2)) hB (fun k1 M3 m3 a1 _=>Stop.mk ?_))))|((with_reducible refine isDraw [some 28,some 29,some 30,some 31,some 32,some 33,some 34,some 35,some 36,some 37,some 38,some 39,some 40,some 41,some 42,some 43,some 44,some 45,some 46,some 47,some 48,some 49,some 50,some 6] (by decide) ?_);refine draw_rule [(0,[]),(1,[]),(2,[]),(3,[]),(4,[3]),(6,[3]),(7,[3,6]),(5,[6]),(8,[]),(9,[]),(10,[]),(11,[]),(12,[]),(13,[12]),(15,[12]),(16,[12,15]),(14,[15]),(17,[]),(18,[]),(19,[]),(20,[]),(21,[]),(22,[]),(23,[])] [[],[0],[0,1],[0,1,2],[0,1,2],[0,1,2,3,4],[0,1,2],[0,1,2],[0,1,2,3,4,5,6,7],[0,1,2,3,4,5,6,7,8],[0,1,2,3,4,5,6,7,8,9],[0,1,2,3,4,5,6,7,8,9,10],[0,1,2,3,4,5,6,7,8,9,10,11],[0,1,2,3,4,5,6,7,8,9,10,11],[0,1,2,3,4,5,6,7,8,9,10,11,12,13],[0,1,2,3,4,5,6,7,8,9,10,11],[0,1,2,3,4,5,6,7,8,9,10,11],[0,1,2,3,4,5,6,7,8,9,10,11,12,13,14,15,16],[0,1,2,3,4,5,6,7,8,9,10,11,12,13,14,15,16,17],[0,1,2,3,4,5,6,7,8,9,10,11,12,13,14,15,16,17,18],[0,1,2,3,4,5,6,7,8,9,10,11,12,13,14,15,16,17,18,19],[0,1,2,3,4,5,6,7,8,9,10,11,12,13,14,15,16,17,18,19,20],[0,1,2,3,4,5,6,7,8,9,10,11,12,13,14,15,16,17,18,19,20,21],[0,1,2,3,4,5,6,7,8,9,10,11,12,13,14,15,16,17,18,19,20,21,22]] [31,32,33,34,35,40,41,42,43,44] [] (by kernel_rfl) (by kernel_rfl) (by kernel_rfl) (by kernel_rfl) (by exact trivial) ?_)|(refine And.intro ?_ ?_;(try simp only[sxO]at *);omega)|fail)<;>(try simp (maxSteps:=1000000) only [tpH,sgT,yo,yl,ys,vo,so,hasK_nil,bs_mk,bs_app,bs_ext,bs_size,bs_toList,bs_at,bs_cells,List.take_length,imp_ga,guard_pk,guard_pk2,↓hold_pre,awayP,runOps,regK,step1,newK,genR,appR,obl,buildR,Value.cells,closeK,keepH,outV,retK,ret1,retC,RetV,Option.getD,runD,stepD,afterK,undef,simprocAttr,sxB,↓sxD,sxE,sxTab]))
 have m3:Mem.le M2 M3:=m3
 have k1o:=a1.one
 refine Stop.go ?_
 refine Go1.mk ?_;repeat' ((first|(with_reducible refine Go1.go ?_)|(((with_reducible refine isCall0 (f:=14) ?_);refine callA0_nil (by kernel_rfl) ?_;refine (rkeys_ok m y C d (hy.le (m1.trans (m2.trans m3))) hB (fun k2 M4 m4 a2 _=>Stop.mk ?_))))|(refine And.intro ?_ ?_;(try simp only[sxO]at *);omega)|fail)<;>(try simp (maxSteps:=1000000) only [k1o,yo,vo,so,hasK_nil,bs_mk,bs_app,bs_ext,bs_size,bs_toList,bs_at,bs_cells,List.take_length,imp_ga,guard_pk,guard_pk2,↓hold_pre,awayP,runOps,regK,step1,newK,genR,appR,obl,buildR,Value.cells,closeK,keepH,outV,retK,ret1,retC,RetV,Option.getD,runD,stepD,afterK,undef,simprocAttr,sxB,↓sxD,sxE,sxTab]))
 have m4:Mem.le M3 M4:=m4
 have k2o:=a2.one
 have l1:=keysB_two (m:=m) (C:=C) (d:=d)
 have l2:=keysB_two (m:=sm) (C:=sC) (d:=d)
 refine Stop.go ?_
 refine Go1.mk ?_;repeat' ((first|(with_reducible refine Go1.go ?_)|(((with_reducible refine isCall0 (f:=12) ?_);refine callA0_nil (by kernel_rfl) ?_;refine (sameTexts_ok k1 k2 _ _ (a1.le m4) a2 (by omega) (by omega) (Stop.mk ?_))))|(refine And.intro ?_ ?_;(try simp only[sxO]at *);omega)|fail)<;>(try simp (maxSteps:=1000000) only [k1o,k2o,yo,vo,so,hasK_nil,bs_mk,bs_app,bs_ext,bs_size,bs_toList,bs_at,bs_cells,List.take_length,imp_ga,guard_pk,guard_pk2,↓hold_pre,awayP,runOps,regK,step1,newK,genR,appR,obl,buildR,Value.cells,closeK,keepH,outV,retK,ret1,retC,RetV,Option.getD,runD,stepD,afterK,undef,simprocAttr,sxB,↓sxD,sxE,sxTab]))
 refine Stop.go ?_
 refine Go1.mk ?_;repeat' ((first|(with_reducible refine Go1.go ?_)|(((with_reducible refine isCall0 (f:=13) ?_);refine callA0_nil (by kernel_rfl) ?_;refine (gkeys_ok sm su sC d ((g2.le m3).le m4) hBf (fun k3 M5 m5 a3 _=>Stop.mk ?_))))|(refine And.intro ?_ ?_;(try simp only[sxO]at *);omega)|fail)<;>(try simp (maxSteps:=1000000) only [k1o,k2o,yo,vo,so,hasK_nil,bs_mk,bs_app,bs_ext,bs_size,bs_toList,bs_at,bs_cells,List.take_length,imp_ga,guard_pk,guard_pk2,↓hold_pre,awayP,runOps,regK,step1,newK,genR,appR,obl,buildR,Value.cells,closeK,keepH,outV,retK,ret1,retC,RetV,Option.getD,runD,stepD,afterK,undef,simprocAttr,sxB,↓sxD,sxE,sxTab]))
 have m5:Mem.le M4 M5:=m5
 have k3o:=a3.one
 refine Stop.go ?_
 refine Go1.mk ?_;repeat' ((first|(with_reducible refine Go1.go ?_)|(((with_reducible refine isCall0 (f:=14) ?_);refine callA0_nil (by kernel_rfl) ?_;refine (rkeys_ok sm su sC d (((g2.le m3).le m4).le m5) hBf (fun k4 M6 m6 a4 _=>Stop.mk ?_))))|(refine And.intro ?_ ?_;(try simp only[sxO]at *);omega)|fail)<;>(try simp (maxSteps:=1000000) only [k1o,k2o,k3o,yo,vo,so,hasK_nil,bs_mk,bs_app,bs_ext,bs_size,bs_toList,bs_at,bs_cells,List.take_length,imp_ga,guard_pk,guard_pk2,↓hold_pre,awayP,runOps,regK,step1,newK,genR,appR,obl,buildR,Value.cells,closeK,keepH,outV,retK,ret1,retC,RetV,Option.getD,runD,stepD,afterK,undef,simprocAttr,sxB,↓sxD,sxE,sxTab]))
 have m6:Mem.le M5 M6:=m6
 have k4o:=a4.one
 refine Stop.go ?_
 refine Go1.mk ?_;repeat' ((first|(with_reducible refine Go1.go ?_)|(((with_reducible refine isCall0 (f:=12) ?_);refine callA0_nil (by kernel_rfl) ?_;refine (sameTexts_ok k3 k4 _ _ (a3.le m6) a4 (by omega) (by omega) (Stop.mk ?_))))|(refine And.intro ?_ ?_;(try simp only[sxO]at *);omega)|fail)<;>(try simp (maxSteps:=1000000) only [k1o,k2o,k3o,k4o,yo,vo,so,hasK_nil,bs_mk,bs_app,bs_ext,bs_size,bs_toList,bs_at,bs_cells,List.take_length,imp_ga,guard_pk,guard_pk2,↓hold_pre,awayP,runOps,regK,step1,newK,genR,appR,obl,buildR,Value.cells,closeK,keepH,outV,retK,ret1,retC,RetV,Option.getD,runD,stepD,afterK,undef,simprocAttr,sxB,↓sxD,sxE,sxTab]))
 refine Stop.go ?_
 refine Go1.mk ?_;repeat' ((first|(with_reducible refine Go1.go ?_)|((first|((with_reducible refine isCall (f:=9) ?_);refine callA_nil (by kernel_rfl) ?_)|((with_reducible refine isCall0 (f:=9) ?_);refine callA0_nil (by kernel_rfl) ?_));refine (known27_ok (fun M7 m7=>Stop.mk ?_)))|(refine And.intro ?_ ?_;(try simp only[sxO]at *);omega)|fail)<;>(try simp (maxSteps:=1000000) only [k1o,k2o,k3o,k4o,yo,vo,so,hasK_nil,bs_mk,bs_app,bs_ext,bs_size,bs_toList,bs_at,bs_cells,List.take_length,imp_ga,guard_pk,guard_pk2,↓hold_pre,awayP,runOps,regK,step1,newK,genR,appR,obl,buildR,Value.cells,closeK,keepH,outV,retK,ret1,retC,RetV,Option.getD,runD,stepD,afterK,undef,simprocAttr,sxB,↓sxD,sxE,sxTab]))
 have m7:Mem.le M6 M7:=m7
 refine Stop.go ?_
 refine Go1.mk ?_;repeat' ((first|(with_reducible refine Go1.go ?_)|(refine And.intro ?_ ?_;(try simp only[sxO]at *);omega)|fail)<;>(try simp (maxSteps:=1000000) only [k1o,k2o,k3o,k4o,yo,vo,so,hasK_nil,bs_mk,bs_app,bs_ext,bs_size,bs_toList,bs_at,bs_cells,List.take_length,imp_ga,guard_pk,guard_pk2,↓hold_pre,awayP,runOps,regK,step1,newK,genR,appR,obl,buildR,Value.cells,closeK,keepH,outV,retK,ret1,retC,RetV,Option.getD,runD,stepD,afterK,undef,simprocAttr,sxB,↓sxD,sxE,sxTab]))
 exact hK _ (m1.trans (m2.trans (m3.trans (m4.trans (m5.trans (m6.trans m7))))))
end
end Go.Proofs.Ytoblkpomikokhaa.Sx
