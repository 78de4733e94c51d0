/- Part 30 of the texts of this claim: a symbolic executor and contracts of functions. -/
import Derived.Test.YtoblkpomikokhaaGpORP3
import Derived.Test.YtoblkpomikokhaaGpORCSub
import Derived.Test.YtoblkpomikokhaaGpORCOpn
namespace Go.Proofs.Ytoblkpomikokhaa.Sx
open Go Go.RowKit
set_option linter.unusedVariables false
set_option linter.unusedSimpArgs false
set_option maxRecDepth 100000
set_option maxHeartbeats 8000000
attribute [local congr] fin_congr finG_congr stepG_congr step1_congr runOps_congr brv_congr obl_congr condK_congr LoopK_congr seqK_congr CutK_congr vc_congr DrawK_congr regK_congr CallK_congr AskK_congr newK_congr retC_congr ret1_congr retK_congr outV_congr closeK_congr genR_congr appR_congr finD_congr finGD_congr stepGD_congr stepD_congr CallK0_congr runD_congr okR_congr CallS_congr vcX_congr
attribute [local congr] Stop_congr
def clF(X:List Stk):List AV:=(X.flatMap clC).map .ext
theorem clF_len(X:List Stk):(clF X).length=X.length*3:=by
 unfold clF
 rw[List.length_map,flat_len (z:=3) (fun _=>rfl)]
theorem clF_ment(X:List Stk):mentL (clF X)=[]:=mentL_ext _
theorem clF_kill(k:Nat)(X:List Stk):killL k (clF X)=clF X:=killL_exts _ _
theorem clF_app(X:List Stk)(s:Bst×Bst×Int):clF X++[.ext (.string (bs s.1)),.ext (.string (bs s.2.1)),.ext (.int .i64 s.2.2)]=clF (X++[s]):=by simp[clF,clC]
def faF(X:List Fa):List AV:=(X.flatMap faC).map .ext
theorem faF_len(X:List Fa):(faF X).length=X.length*5:=by
 unfold faF
 rw[List.length_map,flat_len (z:=5) (fun _=>rfl)]
theorem faF_ment(X:List Fa):mentL (faF X)=[]:=mentL_ext _
theorem faF_kill(k:Nat)(X:List Fa):killL k (faF X)=faF X:=killL_exts _ _
theorem faF_app(X:List Fa)(p t:Bst)(e:Int)(m:Bst)(u:Value)(C:List Stk):faF X++[.ext (.string (bs p)),.ext (.string (bs t)),.ext (.int .i64 e),.ext (.string (bs m)),.ext u]=faF (X++[(p,t,e,m,u,C)]):=by simp[faF,faC]
theorem FrzF.fail{K:AV→Hp→Mem→Prop}{H H2:Hp}{M':Mem}{k n:Nat}{T:TypeId}{a b c d:Value}(cs:List Value)(h1:lkH H k=none)(h2:cs.length=n*3)(h3:hasK k (mentH H2)=false)(h4:lkH H2 k=none)(h:∀u M'',Mem.le M' M''→SlM M'' 3 u n cs→FreshS M' u→K (.ext (.agg #[a,b,c,d,u])) H2 M''):FrzF K H (.ag false [.ext a,.ext b,.ext c,.ext d,.slo k 0 n 3]) ((k,T,cs.map .ext) :: H2) M':=
 .inr ⟨some false,[.ext a,.ext b,.ext c,.ext d],[],k,n,3,T,cs,H2,rfl,rfl,h4,h1,h2,by simp[mentL,AV.ment,hasK,h3],fun u M'' x y z=>h u M'' x y z⟩
structure drF (least:Nat) (f:Fa):Prop where
 pk:f.1=[112]
 ts:f.2.1.length=1
 e0:0≤f.2.2.1
 e1:f.2.2.1≤1
 l0:least≤f.2.2.2.2.2.length
 l1:f.2.2.2.2.2.length≤least+3
 cs:∀c∈f.2.2.2.2.2,c.1.length=1∧c.2.1=[120,46,103,111]
section
variable {M:Mem}{K:AV→Hp→Mem→Prop}
def flSt(M:Mem)(v:Value)(m:Bst)(i:Nat)(X:List Stk):St:={env:=[(6,.ext (.int .i64 (i:Int))),(5,.own 105 0),(4,.own 104 0),(1,.ext v)],hp:=[(105,34,[.ext (.string (bs [112])),.ext (.string (bs [116])),.ext (.int .i64 0),.ext (.string (bs m)),.slo 125 0 i 3]),(125,74,clF X),(104,34,[.ext (.string (bs [])),.ext (.string (bs [])),.ext (.int .i64 0),.ext (.string (bs [])),.ext (.slice none 0 0)])],M:=M,kb:=100,fx:=[]}
def stkF(L:List Bst):List Stk:=L.zipIdx.map fun p=>(p.1,[120,46,103,111],(p.2:Int))
def fl0(M:Mem)(v:Value)(m:Bst):St:={env:=[(6,.ext (.int .i64 0)),(5,.own 105 0),(4,.own 104 0),(1,.ext v)],hp:=[(105,34,[.ext (.string (bs [112])),.ext (.string (bs [116])),.ext (.int .i64 0),.ext (.string (bs m)),.ext (.slice none 0 0)]),(104,34,[.ext (.string (bs [])),.ext (.string (bs [])),.ext (.int .i64 0),.ext (.string (bs [])),.ext (.slice none 0 0)])],M:=M,kb:=100,fx:=[]}
theorem fl0_le(M:Mem)(v:Value)(m:Bst):Le (fl0 M v m) (flSt M v m 0 []):=
 (le_nilH (s:=fl0 M v m) 105 4 125 74 34 _ 3 rfl rfl (.inl rfl)).trans (le_sub ⟨rfl,rfl,rfl,rfl,trivial⟩ ⟨rfl,rfl,rfl,trivial⟩ rfl rfl rfl (keepLt_of rfl))
theorem stkF_len(L:List Bst):(stkF L).length=L.length:=by simp[stkF]
theorem stkF_at(L:List Bst)(i:Nat)(h:i<L.length):(stkF L)[i]'(by rw[stkF_len];exact h)=(L[i],[120,46,103,111],(i:Int)):=by simp[stkF]
theorem fail_ok(m:Bst)(v:Value)(L:List Bst)(hv:IsL M sbV v L)(hL:L.length<1000)
  (hK:∀u M',Mem.le M M'→IsR M' 3 clC u (stkF L)→FreshS M u→K (.ext (faV [112] [116] 0 m u)) [] M'):CallS Try.prog 22 [.ext (.string (bs m)),.ext v] [] M [] K:=by
 refine CallS.frzF ?_
 refine inlS (cs:=[]) Try.mixed Try.func22 rfl (by kernel_rfl) 100 rfl rfl ?_
 simp only[Try.f22]
 have vo:=hv.one
 have vl:=hv.len
 have vs:=hv.sl
 have n1:bs [112]=⟨#[112]⟩:=rfl
 refine Go1.mk ?_;repeat' ((first|(with_reducible refine Go1.go ?_)|(refine And.intro ?_ ?_;(try simp only[sxO]at *);omega)|fail)<;>(try simp (maxSteps:=1000000) only [vo,vl,vs,bs_mk,bs_app,bs_ext,bs_size,bs_toList,bs_at,bs_cells,List.take_length,imp_ga,guard_pk,guard_pk2,↓hold_pre,awayP,runOps,regK,step1,newK,genR,appR,obl,buildR,Value.cells,closeK,keepH,outV,retK,ret1,retC,RetV,Option.getD,runD,stepD,afterK,undef,simprocAttr,sxB,↓sxD,sxE,sxTab]))
 refine ⟨fun q z=>∃i,q=L.length-i∧i≤L.length∧z=flSt M v m i ((stkF L).take i),⟨L.length,flSt M v m 0 [],Le.trans (le_sub (z:=fl0 M v m) ⟨rfl,rfl,rfl,rfl,trivial⟩ ⟨rfl,rfl,trivial⟩ rfl rfl rfl (keepLt_of rfl)) (fl0_le _ _ _),⟨0,by omega,by omega,rfl⟩⟩,?_⟩
 rintro q z ⟨i,rfl,hi,rfl⟩
 have lX:(clF ((stkF L).take i)).length=i*3:=by rw[clF_len,List.length_take,stkF_len,Nat.min_eq_left hi]
 by_cases hlt:i<L.length
 case neg=>
  obtain rfl:i=L.length:=by omega
  have y1:decide ((L.length:Int)<(L.length:Int))=false:=by simp
  rw[List.take_of_length_le (by rw[stkF_len];exact Nat.le_refl _)]at lX ⊢
  refine Go1.mk ?_;repeat' ((first|(with_reducible refine Go1.go ?_)|(refine And.intro ?_ ?_;(try simp only[sxO]at *);omega)|fail)<;>(try simp (maxSteps:=1000000) only [flSt,y1,vo,vl,vs,lX,clF_ment,clF_kill,hasK_nil,bs_mk,bs_app,bs_ext,bs_size,bs_toList,bs_at,bs_cells,List.take_length,imp_ga,guard_pk,guard_pk2,↓hold_pre,awayP,runOps,regK,step1,newK,genR,appR,obl,buildR,Value.cells,closeK,keepH,outV,retK,ret1,retC,RetV,Option.getD,runD,stepD,afterK,undef,simprocAttr,sxB,↓sxD,sxE,sxTab]))
  exact FrzF.fail ((stkF L).flatMap clC) rfl (by rw[flat_len (z:=3) (fun _=>rfl),stkF_len]) rfl rfl (fun u M'' a b c=>hK u M'' a (by unfold IsR;rw[stkF_len];exact b) c)
 have y1:decide ((i:Int)<(L.length:Int))=true:=by rw[decide_eq_true_eq];omega
 have f1:=hv.idx (P:=Try.prog) (T:=9) tk9 tz9 (by omega) hlt
 have wi:IntKind.i64.wrap ((i:Int)+1)=((i+1:Nat):Int):=by rw[wrap_id (by omega) (by omega)];omega
 have hs:=clF_app ((stkF L).take i) (L[i],[120,46,103,111],(i:Int))
 rw[←stkF_at L i hlt,←List.take_succ_eq_append_getElem (by rw[stkF_len];exact hlt)]at hs
 rw[stkF_at L i hlt]at hs
 have hs:clF ((stkF L).take i)++[.ext (.string (bs L[i])),.ext (.string (bs [120,46,103,111])),.ext (.int .i64 (i:Int))]=clF ((stkF L).take (i+1)):=hs
 refine Go1.mk ?_;repeat' ((first|(with_reducible refine Go1.go ?_)|((with_reducible refine isDraw [some 16,some 17,some 18,some 19,some 20,some 21,some 22,some 23,some 24,some 25,some 26,none] (by decide) ?_);refine draw_rule [(0,[]),(1,[]),(2,[1]),(3,[1]),(4,[1]),(5,[1]),(6,[1,5]),(7,[1]),(8,[1]),(9,[]),(10,[]),(11,[])] [[],[0],[],[],[2,3],[2,3,4],[],[2,3,4,5,6],[2,3,4,5,6,7],[0,1,2,3,4,5,6,7,8],[0,1,2,3,4,5,6,7,8,9],[0,1,2,3,4,5,6,7,8,9,10]] [16,17,18,19,20,21,22,23,24] [] (by kernel_rfl) (by kernel_rfl) (by kernel_rfl) (by kernel_rfl) (by exact trivial) ?_)|(refine And.intro ?_ ?_;(try simp only[sxO]at *);omega)|fail)<;>(try simp (maxSteps:=1000000) only [flSt,y1,f1,sbV,wi,hs,maxLen,vo,vl,vs,lX,clF_ment,clF_kill,hasK_nil,Nat.mul_one,bs_mk,bs_app,bs_ext,bs_size,bs_toList,bs_at,bs_cells,List.take_length,imp_ga,guard_pk,guard_pk2,↓hold_pre,awayP,runOps,regK,step1,newK,genR,appR,obl,buildR,Value.cells,closeK,keepH,outV,retK,ret1,retC,RetV,Option.getD,runD,stepD,afterK,undef,simprocAttr,sxB,↓sxD,sxE,sxTab]))
 exact ⟨L.length-(i+1),flSt M v m (i+1) ((stkF L).take (i+1)),by omega,le_sub ⟨rfl,rfl,rfl,rfl,trivial⟩ ⟨rfl,rfl,rfl,trivial⟩ rfl rfl rfl (keepLt_of rfl),i+1,rfl,by omega,rfl⟩
theorem fail_nil(m:Bst)(hK:K (.ext (faV [112] [116] 0 m (.slice none 0 0))) [] M):CallS Try.prog 22 [.ext (.string (bs m)),.ext (.slice none 0 0)] [] M [] K:=by
 refine inlS (cs:=[]) Try.mixed Try.func22 rfl (by kernel_rfl) 100 rfl rfl ?_
 simp only[Try.f22]
 have n1:bs [112]=⟨#[112]⟩:=rfl
 refine Go1.mk ?_;repeat' ((first|(with_reducible refine Go1.go ?_)|(refine And.intro ?_ ?_;(try simp only[sxO]at *);omega)|fail)<;>(try simp (maxSteps:=1000000) only [bs_mk,bs_app,bs_ext,bs_size,bs_toList,bs_at,bs_cells,List.take_length,imp_ga,guard_pk,guard_pk2,↓hold_pre,awayP,runOps,regK,step1,newK,genR,appR,obl,buildR,Value.cells,closeK,keepH,outV,retK,ret1,retC,RetV,Option.getD,runD,stepD,afterK,undef,simprocAttr,sxB,↓sxD,sxE,sxTab]))
 refine ⟨fun q z=>q=0∧z=fl0 M (.slice none 0 0) m,⟨0,fl0 M (.slice none 0 0) m,le_sub (z:=fl0 M (.slice none 0 0) m) ⟨rfl,rfl,rfl,rfl,trivial⟩ ⟨rfl,rfl,trivial⟩ rfl rfl rfl (keepLt_of rfl),⟨rfl,rfl⟩⟩,?_⟩
 rintro q z ⟨rfl,rfl⟩
 refine Go1.mk ?_;repeat' ((first|(with_reducible refine Go1.go ?_)|(refine And.intro ?_ ?_;(try simp only[sxO]at *);omega)|fail)<;>(try simp (maxSteps:=1000000) only [fl0,hasK_nil,bs_mk,bs_app,bs_ext,bs_size,bs_toList,bs_at,bs_cells,List.take_length,imp_ga,guard_pk,guard_pk2,↓hold_pre,awayP,runOps,regK,step1,newK,genR,appR,obl,buildR,Value.cells,closeK,keepH,outV,retK,ret1,retC,RetV,Option.getD,runD,stepD,afterK,undef,simprocAttr,sxB,↓sxD,sxE,sxTab]))
 exact hK
theorem fail_bor(m:Bst)(k n:Nat)(T:TypeId)(L:List Bst)(hn:n=L.length)(hL:L.length<1000)
  (hK:∀u M',Mem.le M M'→IsR M' 3 clC u (stkF L)→K (.ext (faV [112] [116] 0 m u)) [(k,T,cE sbV L)] M'):CallS Try.prog 22 [.ext (.string (bs m)),.slo k 0 n 1] [(k,T,cE sbV L)] M [] K:=by
 refine CallS.bor ⟨⟨_,rfl⟩,trivial⟩ fun us M' hM hb'=>?_
 obtain ⟨_,_,rfl,rfl,v1,_,rfl,hv,rfl⟩:=hb'
 exact fail_ok m v1 L (hv.isL (T:=T) (by simp[lkH]) hn) hL fun u M2 c1 c2 c3=>⟨fun j hj=>rfl,fun M3 h5 h6 _=>hK u M3 h5 (SlM.move c2 c3 h6)⟩
def msL:List Bst:=[[],[97,32,49],[97,32,50],[98],[99],[100],[101,47,102]]
def tsL:List Bst:=[[116],[117]]
def fnL:List Bst:=[[102],[103],[104],[105],[106]]
def tpH(u:Value)(p:Nat):List AV:=[.ext u,.ext (.int .i64 (p:Int))]
def fuSt(M:Mem)(u:Value)(p:Nat)(ts m:Bst)(e:Int)(c i:Nat)(X:List Stk):St:={env:=[(6,.ext (.int .i64 (c:Int))),(5,.own 105 0),(4,.own 104 0),(0,.own 40 0)],hp:=[(105,34,[.ext (.string (bs [112])),.ext (.string (bs ts)),.ext (.int .i64 e),.ext (.string (bs m)),.slo 136 0 i 3]),(136,74,clF X),(104,34,[.ext (.string (bs [])),.ext (.string (bs [])),.ext (.int .i64 0),.ext (.string (bs [])),.ext (.slice none 0 0)]),(40,38,tpH u p)],M:=M,kb:=100,fx:=[40]}
def fu0(M:Mem)(u:Value)(p:Nat)(ts m:Bst)(e:Int)(c:Nat):St:={env:=[(6,.ext (.int .i64 (c:Int))),(5,.own 105 0),(4,.own 104 0),(0,.own 40 0)],hp:=[(105,34,[.ext (.string (bs [112])),.ext (.string (bs ts)),.ext (.int .i64 e),.ext (.string (bs m)),.ext (.slice none 0 0)]),(104,34,[.ext (.string (bs [])),.ext (.string (bs [])),.ext (.int .i64 0),.ext (.string (bs [])),.ext (.slice none 0 0)]),(40,38,tpH u p)],M:=M,kb:=100,fx:=[40]}
theorem fu0_le(M:Mem)(u:Value)(p:Nat)(ts m:Bst)(e:Int)(c:Nat):Le (fu0 M u p ts m e c) (fuSt M u p ts m e c 0 []):=
 (le_nilH (s:=fu0 M u p ts m e c) 105 4 136 74 34 _ 3 rfl rfl (.inl rfl)).trans (le_sub ⟨rfl,rfl,rfl,rfl,trivial⟩ ⟨rfl,rfl,rfl,rfl,trivial⟩ rfl rfl rfl (keepLt_of rfl))
theorem failure_ok(u:Value)(l:List Int)(p least:Nat)(hu:IsL M intV64 u l)(hp:p<900000)(hl:least≤10)
  (hK:∀(f:Fa) M' p',Mem.le M M'→p'≤p+100→drF least f→faOk M' f→FreshS M f.2.2.2.2.1→K (.ext (faV f.1 f.2.1 f.2.2.1 f.2.2.2.1 f.2.2.2.2.1)) [(40,38,tpH u p')] M'):CallS Try.prog 11 [.own 40 0,.ext (.int .i64 (least:Int))] [(40,38,tpH u p)] M [] K:=by
 refine CallS.frzF ?_
 refine inlS (cs:=[]) Try.mixed Try.func11 rfl (by kernel_rfl) 100 rfl rfl ?_
 simp only[Try.f11]
 have uo:=hu.one
 have n1:[AV.ext (.string (bs [])),.ext (.string (bs [97,32,49])),.ext (.string (bs [97,32,50])),.ext (.string (bs [98])),.ext (.string (bs [99])),.ext (.string (bs [100])),.ext (.string (bs [101,47,102]))]=cE sbV msL:=rfl
 have n2:[AV.ext (.string (bs [116])),.ext (.string (bs [117]))]=cE sbV tsL:=rfl
 have n3:[AV.ext (.string (bs [102])),.ext (.string (bs [103])),.ext (.string (bs [104])),.ext (.string (bs [105])),.ext (.string (bs [106]))]=cE sbV fnL:=rfl
 refine Go1.mk ?_;repeat' ((first|(with_reducible refine Go1.go ?_)|((with_reducible refine isCall (f:=31) ?_);refine callA ?_)|((with_reducible refine isCall0 (f:=31) ?_);refine callA0 ?_)|((with_reducible refine isCallS (f:=31) ?_);refine (one_ok 40 108 (by decide) u l _ msL _ _ (by rfl) hu (by omega) (by decide) (by decide) (fun i hi=>Stop.mk ?_)))|(refine And.intro ?_ ?_;(try simp only[sxO]at *);omega)|fail)<;>(try simp (maxSteps:=1000000) only [tpH,faV,uo,n1,cE_ment,cE_kill,hasK_nil,bs_mk,bs_app,bs_ext,bs_size,bs_toList,bs_at,bs_cells,List.take_length,imp_ga,guard_pk,guard_pk2,↓hold_pre,awayP,runOps,regK,step1,newK,genR,appR,obl,buildR,Value.cells,closeK,keepH,outV,retK,ret1,retC,RetV,Option.getD,runD,stepD,afterK,undef,simprocAttr,sxB,↓sxD,sxE,sxTab]))
 have hm3:(msL[i]).length≤3:=(show ∀x∈msL,x.length≤3 by decide) _ (List.getElem_mem hi)
 generalize msL[i]=m at *
 refine Stop.go ?_
 refine Go1.mk ?_;repeat' ((first|(with_reducible refine Go1.go ?_)|(((with_reducible refine isCall (f:=22) ?_);refine callA_nil (by kernel_rfl) ?_;refine (fail_nil m ?_)))|((with_reducible refine isCall (f:=31) ?_);refine callA ?_)|((with_reducible refine isCall0 (f:=31) ?_);refine callA0 ?_)|((with_reducible refine isCallS (f:=31) ?_);refine (one_ok 40 112 (by decide) u l _ tsL _ _ (by rfl) hu (by omega) (by decide) (by decide) (fun i hi=>Stop.mk ?_)))|(refine And.intro ?_ ?_;(try simp only[sxO]at *);omega)|fail)<;>(try simp (maxSteps:=1000000) only [tpH,faV,sbV,uo,n2,cE_ment,cE_kill,hasK_nil,bs_mk,bs_app,bs_ext,bs_size,bs_toList,bs_at,bs_cells,List.take_length,imp_ga,guard_pk,guard_pk2,↓hold_pre,awayP,runOps,regK,step1,newK,genR,appR,obl,buildR,Value.cells,closeK,keepH,outV,retK,ret1,retC,RetV,Option.getD,runD,stepD,afterK,undef,simprocAttr,sxB,↓sxD,sxE,sxTab]))
 have ht1:(tsL[i]).length=1:=(show ∀x∈tsL,x.length=1 by decide) _ (List.getElem_mem _)
 generalize tsL[i]=ts at *
 refine Stop.go ?_
 refine Go1.mk ?_;repeat' ((first|(with_reducible refine Go1.go ?_)|((with_reducible refine isCall (f:=21) ?_);refine callA ?_)|((with_reducible refine isCall0 (f:=21) ?_);refine callA0 ?_)|((with_reducible refine isCallS (f:=21) ?_);refine (nextI_ok 40 u l _ _ hu (by omega) (by omega) (by omega) (fun e he0 he1=>Stop.mk ?_)))|(refine And.intro ?_ ?_;(try simp only[sxO]at *);omega)|fail)<;>(try simp (maxSteps:=1000000) only [tpH,faV,sbV,uo,n2,cE_ment,cE_kill,hasK_nil,bs_mk,bs_app,bs_ext,bs_size,bs_toList,bs_at,bs_cells,List.take_length,imp_ga,guard_pk,guard_pk2,↓hold_pre,awayP,runOps,regK,step1,newK,genR,appR,obl,buildR,Value.cells,closeK,keepH,outV,retK,ret1,retC,RetV,Option.getD,runD,stepD,afterK,undef,simprocAttr,sxB,↓sxD,sxE,sxTab]))
 refine Stop.go ?_
 refine Go1.mk ?_;repeat' ((first|(with_reducible refine Go1.go ?_)|((with_reducible refine isCall (f:=21) ?_);refine callA ?_)|((with_reducible refine isCall0 (f:=21) ?_);refine callA0 ?_)|((with_reducible refine isCallS (f:=21) ?_);refine (nextI_ok 40 u l _ _ hu (by omega) (by omega) (by omega) (fun x hx0 hx1=>Stop.mk ?_)))|(refine And.intro ?_ ?_;(try simp only[sxO]at *);omega)|fail)<;>(try simp (maxSteps:=1000000) only [tpH,faV,sbV,uo,cE_ment,cE_kill,hasK_nil,bs_mk,bs_app,bs_ext,bs_size,bs_toList,bs_at,bs_cells,List.take_length,imp_ga,guard_pk,guard_pk2,↓hold_pre,awayP,runOps,regK,step1,newK,genR,appR,obl,buildR,Value.cells,closeK,keepH,outV,retK,ret1,retC,RetV,Option.getD,runD,stepD,afterK,undef,simprocAttr,sxB,↓sxD,sxE,sxTab]))
 obtain ⟨y,rfl⟩:=Int.eq_ofNat_of_zero_le hx0
 have wy:IntKind.i64.wrap ((least:Int)+(y:Int))=((least+y:Nat):Int):=by rw[wrap_id (by omega) (by omega)];omega
 refine Stop.go ?_
 refine Go1.mk ?_;repeat' ((first|(with_reducible refine Go1.go ?_)|(refine And.intro ?_ ?_;(try simp only[sxO]at *);omega)|fail)<;>(try simp (maxSteps:=1000000) only [tpH,faV,sbV,wy,uo,cE_ment,cE_kill,hasK_nil,bs_mk,bs_app,bs_ext,bs_size,bs_toList,bs_at,bs_cells,List.take_length,imp_ga,guard_pk,guard_pk2,↓hold_pre,awayP,runOps,regK,step1,newK,genR,appR,obl,buildR,Value.cells,closeK,keepH,outV,retK,ret1,retC,RetV,Option.getD,runD,stepD,afterK,undef,simprocAttr,sxB,↓sxD,sxE,sxTab]))
 refine ⟨fun d z=>∃c p' X,d=c∧c+X.length=least+y∧p'≤p+4+2*X.length∧(∀s∈X,s.1.length=1∧s.2.1=[120,46,103,111])∧z=fuSt M u p' ts m e c X.length X,⟨least+y,fuSt M u (p+1+1+1+1) ts m e (least+y) 0 [],Le.trans (le_sub (z:=fu0 M u (p+1+1+1+1) ts m e (least+y)) ⟨rfl,rfl,rfl,rfl,trivial⟩ ⟨rfl,rfl,rfl,trivial⟩ rfl rfl rfl (keepLt_of rfl)) (fu0_le _ _ _ _ _ _ _),⟨_,_,[],rfl,rfl,by simp,(fun s hs=>by cases hs),rfl⟩⟩,?_⟩
 rintro d z ⟨c,p',X,rfl,hcX,hp',hX,rfl⟩
 have lX:=clF_len X
 by_cases hc:0<d
 case neg=>
  obtain rfl:d=0:=by omega
  have d1:decide ((0:Int)<((0:Nat):Int))=false:=by decide
  refine Go1.mk ?_;repeat' ((first|(with_reducible refine Go1.go ?_)|(refine And.intro ?_ ?_;(try simp only[sxO]at *);omega)|fail)<;>(try simp (maxSteps:=1000000) only [tpH,fuSt,d1,lX,clF_ment,clF_kill,uo,hasK_nil,bs_mk,bs_app,bs_ext,bs_size,bs_toList,bs_at,bs_cells,List.take_length,imp_ga,guard_pk,guard_pk2,↓hold_pre,awayP,runOps,regK,step1,newK,genR,appR,obl,buildR,Value.cells,closeK,keepH,outV,retK,ret1,retC,RetV,Option.getD,runD,stepD,afterK,undef,simprocAttr,sxB,↓sxD,sxE,sxTab]))
  refine FrzF.fail (X.flatMap clC) rfl (by rw[flat_len (z:=3) (fun _=>rfl)]) rfl rfl (fun v M'' a b g=>?_)
  exact hK ([112],ts,e,m,v,X) M'' p' a (by omega) ⟨rfl,ht1,he0,by show e≤1;omega,by show least≤X.length;omega,by show X.length≤least+3;omega,hX⟩ ⟨b,by show X.length<_;omega,by show m.length<_;omega,fun c hc=>by
   obtain ⟨a1,a2⟩:=hX c hc
   exact ⟨by omega,by rw[a2];decide⟩⟩ g
 have d1:decide ((0:Int)<(d:Int))=true:=by simp;omega
 have wd:IntKind.i64.wrap ((d:Int)-1)=((d-1:Nat):Int):=by rw[wrap_id (by omega) (by omega)];omega
 refine Go1.mk ?_;repeat' ((first|(with_reducible refine Go1.go ?_)|((with_reducible refine isCall (f:=31) ?_);refine callA ?_)|((with_reducible refine isCall0 (f:=31) ?_);refine callA0 ?_)|((with_reducible refine isCallS (f:=31) ?_);refine (one_ok 40 130 (by decide) u l _ fnL _ _ (by rfl) hu (by omega) (by decide) (by decide) (fun i hi=>Stop.mk ?_)))|((with_reducible refine isDraw [some 27,some 28,some 29,some 30,some 31,some 32,some 33,some 34,some 35,some 36,some 37,none] (by decide) ?_);refine draw_rule [(0,[]),(1,[]),(2,[1]),(3,[1]),(5,[1]),(4,[1]),(6,[1]),(7,[1]),(8,[1]),(9,[]),(10,[]),(11,[])] [[],[0],[],[],[2,3],[],[2,3,4,5],[2,3,4,5,6],[2,3,4,5,6,7],[0,1,2,3,4,5,6,7,8],[0,1,2,3,4,5,6,7,8,9],[0,1,2,3,4,5,6,7,8,9,10]] [27,28,29,30,31,32,33,34,35] [] (by kernel_rfl) (by kernel_rfl) (by kernel_rfl) (by kernel_rfl) (by exact trivial) ?_)|(refine And.intro ?_ ?_;(try simp only[sxO]at *);omega)|fail)<;>(try simp (maxSteps:=1000000) only [tpH,fuSt,d1,n3,lX,clF_ment,clF_kill,cE_ment,cE_kill,uo,hasK_nil,bs_mk,bs_app,bs_ext,bs_size,bs_toList,bs_at,bs_cells,List.take_length,imp_ga,guard_pk,guard_pk2,↓hold_pre,awayP,runOps,regK,step1,newK,genR,appR,obl,buildR,Value.cells,closeK,keepH,outV,retK,ret1,retC,RetV,Option.getD,runD,stepD,afterK,undef,simprocAttr,sxB,↓sxD,sxE,sxTab]))
 have hf1:(fnL[i]).length=1:=(show ∀x∈fnL,x.length=1 by decide) _ (List.getElem_mem _)
 generalize fnL[i]=fn at *
 refine Stop.go ?_
 refine Go1.mk ?_;repeat' ((first|(with_reducible refine Go1.go ?_)|((with_reducible refine isCall (f:=21) ?_);refine callA ?_)|((with_reducible refine isCall0 (f:=21) ?_);refine callA0 ?_)|((with_reducible refine isCallS (f:=21) ?_);refine (nextI_ok 40 u l _ _ hu (by omega) (by omega) (by omega) (fun q hq0 hq1=>Stop.mk ?_)))|(refine And.intro ?_ ?_;(try simp only[sxO]at *);omega)|fail)<;>(try simp (maxSteps:=1000000) only [tpH,fuSt,sbV,d1,n3,lX,clF_ment,clF_kill,cE_ment,cE_kill,uo,hasK_nil,bs_mk,bs_app,bs_ext,bs_size,bs_toList,bs_at,bs_cells,List.take_length,imp_ga,guard_pk,guard_pk2,↓hold_pre,awayP,runOps,regK,step1,newK,genR,appR,obl,buildR,Value.cells,closeK,keepH,outV,retK,ret1,retC,RetV,Option.getD,runD,stepD,afterK,undef,simprocAttr,sxB,↓sxD,sxE,sxTab]))
 have hs:=clF_app X (fn,[120,46,103,111],q)
 have hs:clF X++[.ext (.string (bs fn)),.ext (.string (bs [120,46,103,111])),.ext (.int .i64 q)]=clF (X++[(fn,[120,46,103,111],q)]):=hs
 refine Stop.go ?_
 refine Go1.mk ?_;repeat' ((first|(with_reducible refine Go1.go ?_)|(refine And.intro ?_ ?_;(try simp only[sxO]at *);omega)|fail)<;>(try simp (maxSteps:=1000000) only [tpH,fuSt,sbV,d1,wd,hs,maxLen,lX,clF_ment,clF_kill,cE_ment,cE_kill,uo,Nat.mul_one,hasK_nil,bs_mk,bs_app,bs_ext,bs_size,bs_toList,bs_at,bs_cells,List.take_length,imp_ga,guard_pk,guard_pk2,↓hold_pre,awayP,runOps,regK,step1,newK,genR,appR,obl,buildR,Value.cells,closeK,keepH,outV,retK,ret1,retC,RetV,Option.getD,runD,stepD,afterK,undef,simprocAttr,sxB,↓sxD,sxE,sxTab]))
 exact ⟨d-1,fuSt M u (p'+1+1) ts m e (d-1) (X++[(fn,[120,46,103,111],q)]).length (X++[(fn,[120,46,103,111],q)]),by omega,le_sub ⟨rfl,rfl,rfl,rfl,trivial⟩ ⟨by simp[lkH,fuSt],by simp[lkH,fuSt],rfl,rfl,trivial⟩ rfl rfl rfl (keepLt_of rfl),d-1,p'+1+1,_,rfl,by rw[List.length_append,List.length_singleton];omega,by rw[List.length_append,List.length_singleton];omega,(fun s hs=>by
  rcases List.mem_append.1 hs with hs|hs
  ·exact hX s hs
  ·rw[List.mem_singleton.1 hs];exact ⟨hf1,rfl⟩),rfl⟩
def fsSt(M:Mem)(u:Value)(p least c n:Nat)(X:List Fa):St:={env:=[(8,.ext (.int .i64 (c:Int))),(7,.slo 122 0 n 5),(2,.ext (.int .i64 (least:Int))),(0,.own 40 0)],hp:=[(122,34,faF X),(40,38,tpH u p)],M:=M,kb:=100,fx:=[40]}
theorem failuresO_ok(u:Value)(l:List Int)(p most least:Nat)(hu:IsL M intV64 u l)(hp:p<10000)(hm:most<1000)(hl:least≤10)
  (hK:∀n (X:List Fa) M' p',Mem.le M M'→n=X.length→X.length≤most→p'≤p+1+100*most→(∀f∈X,drF least f∧faOk M' f)→K (.slo 122 0 n 5) [(122,34,faF X),(40,38,tpH u p')] M'):CallS Try.prog 15 [.own 40 0,.ext (.int .i64 (most:Int)),.ext (.int .i64 (least:Int))] [(40,38,tpH u p)] M [] K:=by
 refine inlS (cs:=[]) Try.mixed Try.func15 rfl (by kernel_rfl) 100 rfl rfl ?_
 simp only[Try.f15]
 have uo:=hu.one
 have wm:IntKind.i64.wrap ((most:Int)+1)=((most+1:Nat):Int):=by rw[wrap_id (by omega) (by omega)];omega
 refine Go1.mk ?_;repeat' ((first|(with_reducible refine Go1.go ?_)|((with_reducible refine isCall (f:=21) ?_);refine callA ?_)|((with_reducible refine isCallS (f:=21) ?_);refine (nextI_ok 40 u l _ _ hu (by omega) (by omega) (by omega) (fun x hx0 hx1=>Stop.mk ?_)))|(refine And.intro ?_ ?_;(try simp only[sxO]at *);omega)|fail)<;>(try simp (maxSteps:=1000000) only [tpH,uo,wm,hasK_nil,↓hold_pre,awayP,runOps,regK,step1,newK,genR,appR,obl,buildR,Value.cells,closeK,keepH,outV,retK,ret1,retC,RetV,Option.getD,runD,stepD,afterK,undef,simprocAttr,sxB,↓sxD,sxE,sxTab]))
 obtain ⟨y,rfl⟩:=Int.eq_ofNat_of_zero_le hx0
 refine Stop.go ?_
 refine Go1.mk ?_;repeat' ((first|(with_reducible refine Go1.go ?_)|(refine And.intro ?_ ?_;(try simp only[sxO]at *);omega)|fail)<;>(try simp (maxSteps:=1000000) only [tpH,uo,wm,hasK_nil,↓hold_pre,awayP,runOps,regK,step1,newK,genR,appR,obl,buildR,Value.cells,closeK,keepH,outV,retK,ret1,retC,RetV,Option.getD,runD,stepD,afterK,undef,simprocAttr,sxB,↓sxD,sxE,sxTab]))
 refine ⟨fun d z=>∃M' c p' X,d=c∧c+X.length=y∧p'≤p+1+100*X.length∧Mem.le M M'∧(∀f∈X,drF least f∧faOk M' f)∧z=fsSt M' u p' least c X.length X,⟨y,fsSt M u (p+1) least y 0 [],(le_nil 7 122 34 5 rfl (.inl rfl)).trans (le_sub ⟨rfl,rfl,rfl,rfl,trivial⟩ ⟨rfl,rfl,trivial⟩ rfl rfl rfl (keepLt_of rfl)),⟨M,_,_,[],rfl,rfl,by simp,Mem.le.refl _,(fun s hs=>by cases hs),rfl⟩⟩,?_⟩
 rintro d z ⟨M1,c,p',X,rfl,hcX,hp',m1,hX,rfl⟩
 have lX:=faF_len X
 by_cases hc:0<d
 case neg=>
  obtain rfl:d=0:=by omega
  have d1:decide ((0:Int)<((0:Nat):Int))=false:=by decide
  refine Go1.mk ?_;repeat' ((first|(with_reducible refine Go1.go ?_)|(refine And.intro ?_ ?_;(try simp only[sxO]at *);omega)|fail)<;>(try simp (maxSteps:=1000000) only [tpH,fsSt,d1,lX,faF_ment,faF_kill,uo,hasK_nil,↓hold_pre,awayP,runOps,regK,step1,newK,genR,appR,obl,buildR,Value.cells,closeK,keepH,outV,retK,ret1,retC,RetV,Option.getD,runD,stepD,afterK,undef,simprocAttr,sxB,↓sxD,sxE,sxTab]))
  exact hK X.length X M1 p' m1 rfl (by omega) (by omega) hX
 have d1:decide ((0:Int)<(d:Int))=true:=by simp;omega
 have wd:IntKind.i64.wrap ((d:Int)-1)=((d-1:Nat):Int):=by rw[wrap_id (by omega) (by omega)];omega
 refine Go1.mk ?_;repeat' ((first|(with_reducible refine Go1.go ?_)|((with_reducible refine isCall (f:=11) ?_);refine callA ?_)|((with_reducible refine isCallS (f:=11) ?_);refine (failure_ok u l p' least (hu.le m1) (by omega) hl (fun f M2 p2 m2 hp2 hd hf _=>Stop.mk ?_)))|(refine And.intro ?_ ?_;(try simp only[sxO]at *);omega)|fail)<;>(try simp (maxSteps:=1000000) only [tpH,fsSt,d1,lX,faF_ment,faF_kill,uo,hasK_nil,↓hold_pre,awayP,runOps,regK,step1,newK,genR,appR,obl,buildR,Value.cells,closeK,keepH,outV,retK,ret1,retC,RetV,Option.getD,runD,stepD,afterK,undef,simprocAttr,sxB,↓sxD,sxE,sxTab]))
 have m2:Mem.le M1 M2:=m2
 obtain ⟨pk,ts,e,m,v,C⟩:=f
 have vo:v.oneCell'=true:=hf.1.one
 have hs:=faF_app X pk ts e m v C
 refine Stop.go ?_
 refine Go1.mk ?_;repeat' ((first|(with_reducible refine Go1.go ?_)|(refine And.intro ?_ ?_;(try simp only[sxO]at *);omega)|fail)<;>(try simp (maxSteps:=1000000) only [tpH,fsSt,faV,d1,wd,vo,hs,maxLen,lX,faF_ment,faF_kill,uo,Nat.mul_one,hasK_nil,↓hold_pre,awayP,runOps,regK,step1,newK,genR,appR,obl,buildR,Value.cells,closeK,keepH,outV,retK,ret1,retC,RetV,Option.getD,runD,stepD,afterK,undef,simprocAttr,sxB,↓sxD,sxE,sxTab]))
 exact ⟨d-1,fsSt M2 u p2 least (d-1) (X++[(pk,ts,e,m,v,C)]).length (X++[(pk,ts,e,m,v,C)]),by omega,le_sub ⟨rfl,by simp[lk,fsSt],rfl,rfl,trivial⟩ ⟨by simp[lkH,fsSt],rfl,trivial⟩ rfl rfl rfl (keepLt_of rfl),M2,d-1,p2,_,rfl,by rw[List.length_append,List.length_singleton];omega,by rw[List.length_append,List.length_singleton];omega,m1.trans m2,(fun s hs=>by
  rcases List.mem_append.1 hs with hs|hs
  ·obtain ⟨a,b1,b2,b3,b4⟩:=hX s hs
   exact ⟨a,b1.le m2,b2,b3,b4⟩
  ·rw[List.mem_singleton.1 hs];exact ⟨hd,hf⟩),rfl⟩
end
theorem GRF.move{M' M'' M3:Mem}{U:Value}{O:List GO}(h:GRF M' M'' U O)(h3:∀b,M' b=none→M3 b=M'' b):GRV M3 U O:=by
 obtain ⟨L,h1,h2,h4,h5⟩:=h
 exact ⟨L,SlM.move h1 h2 h3,fun g hg=>⟨(h4 g hg).1.1.move (h4 g hg).2.1 h3,(h4 g hg).1.2.move (h4 g hg).2.2 h3⟩,h5⟩
theorem isPt_add{v:Value}(o:Nat)(h:isPt v=true):isPt (addP v o)=true:=by
 unfold isPt at h
 split at h
 ·rfl
 ·cases h
theorem addP_addP{v:Value}(a b:Nat)(h:isPt v=true):addP (addP v a) b=addP v (a+b):=by
 unfold isPt at h
 split at h
 ·by_cases ha:a=0<;>by_cases hb:b=0<;>simp[addP,Addr.add,ha,hb,Nat.add_assoc]
 ·cases h
def kn1(v:Value):Fa:=([112],[116],0,[97,32,49],v,stkF [[102],[103]])
def kn2(v:Value):Fa:=([112],[116],0,[98],v,stkF [[102],[103]])
def kn3(v:Value):Fa:=([112],[116],0,[98],v,stkF [])
def knC:List Bst:=[[102,64,120,46,103,111],[103,64,120,46,103,111]]
def knT:List (Bst×List Bst):=[([97,32,35],knC),([98],knC),([98],[])]
theorem kn_T(a b c:Value):[kn1 a,kn2 b,kn3 c].map faB=knT:=by
 show [faB (kn1 (.bool true)),faB (kn2 (.bool true)),faB (kn3 (.bool true))]=knT
 decide +kernel
theorem kn_E2(a b c:Value):sgnE [kn1 a,kn2 b,kn3 c] 2=0:=by
 show sgnE [kn1 (.bool true),kn2 (.bool true),kn3 (.bool true)] 2=0
 decide +kernel
theorem kn_E3(a b c:Value):sgnE [kn1 a,kn2 b,kn3 c] 3=0:=by
 show sgnE [kn1 (.bool true),kn2 (.bool true),kn3 (.bool true)] 3=0
 decide +kernel
theorem lnk_iff{T:List (Bst×List Bst)}{d:Int}{i k:Nat}:lnkR T d i k↔lkB (sgK T d i) (sgK T d k)=true:=lkB_iff.symm
theorem kn_l2:Lab 3 (lnkR knT 2) fun _=>0:=by
 have h01:lnkR knT 2 0 1:=lnk_iff.2 (by decide +kernel)
 have h12:lnkR knT 2 1 2:=lnk_iff.2 (by decide +kernel)
 have c0:∀i,i<3→Conn (lnkR knT 2) 3 0 i:=fun i hi=>by
  match i,hi with
  | 0,_=>exact .refl (by decide)
  | 1,_=>exact .one (by decide) (by decide) h01
  | 2,_=>exact (Conn.one (by decide) (by decide) h01).trans (.one (by decide) (by decide) h12)
 exact ⟨fun i _=>Nat.zero_le _,fun _ _=>rfl,fun _ _ _ _ _=>rfl,fun i k hi hk _=>((c0 i hi).symm lnkR_symm).trans (c0 k hk)⟩
theorem kn_l3:Lab 3 (lnkR knT 3) fun i=>if i=0 then 0 else 1:=by
 have h12:lnkR knT 3 1 2:=lnk_iff.2 (by decide +kernel)
 have n01:¬lnkR knT 3 0 1:=fun h=>absurd (lnk_iff.1 h) (by decide +kernel)
 have n02:¬lnkR knT 3 0 2:=fun h=>absurd (lnk_iff.1 h) (by decide +kernel)
 refine ⟨fun i hi=>by split<;>omega,fun i hi=>by split<;>simp,fun i k hi hk hR=>?_,fun i k hi hk e=>?_⟩
 ·match i,k,hi,hk with
  | 0,0,_,_=>rfl
  | 0,1,_,_=>exact absurd hR n01
  | 0,2,_,_=>exact absurd hR n02
  | 1,0,_,_=>exact absurd (lnkR_symm _ _ hR) n01
  | 2,0,_,_=>exact absurd (lnkR_symm _ _ hR) n02
  | 1,1,_,_=>rfl
  | 1,2,_,_=>rfl
  | 2,1,_,_=>rfl
  | 2,2,_,_=>rfl
 ·match i,k,hi,hk,e with
  | 0,0,_,_,_=>exact .refl (by decide)
  | 1,1,_,_,_=>exact .refl (by decide)
  | 2,2,_,_,_=>exact .refl (by decide)
  | 1,2,_,_,_=>exact .one (by decide) (by decide) h12
  | 2,1,_,_,_=>exact .one (by decide) (by decide) (lnkR_symm _ _ h12)
def knO2:List GO:=[(([97,32,35],knC),[0,1,2])]
def knO3:List GO:=[(([97,32,35],knC),[0]),(([98],[]),[1,2])]
theorem kn_g2:GrpO knT 2 knO2:=⟨_,kn_l2,by decide +kernel⟩
theorem kn_g3:GrpO knT 3 knO3:=⟨_,kn_l3,by decide +kernel⟩
theorem knO3_ok:okO knO3:=⟨by decide,fun o ho=>by
 have:okB o.1.1 o.1.2∧o.2.length≤64∧o.1.2.length<1000000:=by
  rcases List.mem_cons.1 ho with rfl|ho
  ·exact ⟨⟨by decide,by decide,by decide⟩,by decide,by decide⟩
  ·rw[List.mem_singleton.1 ho];exact ⟨⟨by decide,by decide,by decide⟩,by decide,by decide⟩
 exact this⟩
section
variable {M:Mem}{K:AV→Hp→Mem→Prop}
theorem gsplit_bor(k n:Nat)(T:TypeId)(L:List Fa)(d:Int)(hn:n=L.length)(ho:∀f∈L,faOk M f)(hb:L.length<1000000)
  (hK1:sgnE L d≠0→∀M',Mem.le M M'→K (.ext (.tuple #[.slice none 0 0,.int .i64 (sgnE L d)])) [(k,T,faF L)] M')
  (hK2:sgnE L d=0→∀u' M' O,Mem.le M M'→GrpO (L.map faB) d O→GRV M' u' O→K (.ext (.tuple #[u',.int .i64 0])) [(k,T,faF L)] M') :
  CallS Try.prog 16 [.slo k 0 n 5,.ext (.int .i64 d)] [(k,T,faF L)] M [] K:=by
 refine CallS.bor ⟨⟨_,rfl⟩,trivial⟩ fun us M' hM hb'=>?_
 obtain ⟨v1,_,rfl,hv,_,_,rfl,rfl,rfl⟩:=hb'
 have g1:IsR M' 5 faC v1 L:=by
  have h:=hv T (L.flatMap faC) (by simp[lkH,faF]) (by rw[flat_len (z:=5) (fun _=>rfl)];omega)
  rw[List.drop_zero,List.take_of_length_le (by rw[flat_len (z:=5) (fun _=>rfl)];omega)]at h
  unfold IsR
  rw[←hn];exact h
 refine gsplit_ok v1 L d g1 (fun f hf=>⟨(ho f hf).1.le hM,(ho f hf).2⟩) hb (fun he M2 c1=>⟨fun j hj=>rfl,fun M3 h5 h6 _=>hK1 he M3 h5⟩) (fun he u' M2 O c1 c2 c3=>⟨fun j hj=>rfl,fun M3 h5 h6 _=>hK2 he u' M3 O h5 c2 (c3.move h6)⟩)
theorem known27_ok(hK:∀M',Mem.le M M'→K (.ext (.bool true)) [] M'):CallS Try.prog 9 [] [] M [] K:=by
 refine inlS (cs:=[]) Try.mixed Try.func9 rfl (by kernel_rfl) 0 rfl rfl ?_
 simp only[Try.f9]
 have n1:[AV.ext (.string (bs [102])),.ext (.string (bs [103]))]=cE sbV [[102],[103]]:=rfl
 refine Go1.mk ?_;repeat' ((first|(with_reducible refine Go1.go ?_)|((with_reducible refine isCall (f:=22) ?_);refine callA ?_)|((with_reducible refine isCallS (f:=22) ?_);refine (fail_bor [97,32,49] 6 2 _ [[102],[103]] rfl (by decide) (fun v1 M1 m1 g1=>Stop.mk ?_)))|(refine And.intro ?_ ?_;(try simp only[sxO]at *);omega)|fail)<;>(try simp (maxSteps:=1000000) only [n1,cE_ment,cE_kill,hasK_nil,bs_mk,bs_app,bs_ext,bs_size,bs_toList,bs_at,bs_cells,List.take_length,imp_ga,guard_pk,guard_pk2,↓hold_pre,awayP,runOps,regK,step1,newK,genR,appR,obl,buildR,Value.cells,closeK,keepH,outV,retK,ret1,retC,RetV,Option.getD,runD,stepD,afterK,undef,simprocAttr,sxB,↓sxD,sxE,sxTab]))
 have m1:Mem.le M M1:=m1
 have o1:=g1.one
 refine Stop.go ?_
 refine Go1.mk ?_;repeat' ((first|(with_reducible refine Go1.go ?_)|((with_reducible refine isCall (f:=22) ?_);refine callA ?_)|((with_reducible refine isCallS (f:=22) ?_);refine (fail_bor [98] 8 2 _ [[102],[103]] rfl (by decide) (fun v2 M2 m2 g2=>Stop.mk ?_)))|(refine And.intro ?_ ?_;(try simp only[sxO]at *);omega)|fail)<;>(try simp (maxSteps:=1000000) only [n1,faV,o1,cE_ment,cE_kill,hasK_nil,bs_mk,bs_app,bs_ext,bs_size,bs_toList,bs_at,bs_cells,List.take_length,imp_ga,guard_pk,guard_pk2,↓hold_pre,awayP,runOps,regK,step1,newK,genR,appR,obl,buildR,Value.cells,closeK,keepH,outV,retK,ret1,retC,RetV,Option.getD,runD,stepD,afterK,undef,simprocAttr,sxB,↓sxD,sxE,sxTab]))
 have m2:Mem.le M1 M2:=m2
 have o2:=g2.one
 refine Stop.go ?_
 refine Go1.mk ?_;repeat' ((first|(with_reducible refine Go1.go ?_)|(((with_reducible refine isCall (f:=22) ?_);refine callA_nil (by kernel_rfl) ?_;refine (fail_ok [98] (.slice none 0 0) [] (isL_nil _ _ _) (by decide) (fun v3 M3 m3 g3 _=>Stop.mk ?_))))|(refine And.intro ?_ ?_;(try simp only[sxO]at *);omega)|fail)<;>(try simp (maxSteps:=1000000) only [n1,faV,o1,o2,cE_ment,cE_kill,hasK_nil,bs_mk,bs_app,bs_ext,bs_size,bs_toList,bs_at,bs_cells,List.take_length,imp_ga,guard_pk,guard_pk2,↓hold_pre,awayP,runOps,regK,step1,newK,genR,appR,obl,buildR,Value.cells,closeK,keepH,outV,retK,ret1,retC,RetV,Option.getD,runD,stepD,afterK,undef,simprocAttr,sxB,↓sxD,sxE,sxTab]))
 have m3:Mem.le M2 M3:=m3
 have o3:=g3.one
 have n4:faF [kn1 v1,kn2 v2,kn3 v3]=[AV.ext (.string (bs [112])),.ext (.string (bs [116])),.ext (.int .i64 0),.ext (.string (bs [97,32,49])),.ext v1,.ext (.string (bs [112])),.ext (.string (bs [116])),.ext (.int .i64 0),.ext (.string (bs [98])),.ext v2,.ext (.string (bs [112])),.ext (.string (bs [116])),.ext (.int .i64 0),.ext (.string (bs [98])),.ext v3]:=rfl
 have ho:∀f∈[kn1 v1,kn2 v2,kn3 v3],faOk M3 f:=by
  have hc:∀L:List Bst,L=[[102],[103]]∨L=[]→∀c∈stkF L,clOk c:=by
   rintro L (rfl|rfl)
   ·intro c hc
    have h:∀c∈stkF [[102],[103]],c.1.length≤140737488351232∧c.2.1.length≤140737488351232:=by decide
    exact h c hc
   ·intro c hc;cases hc
  intro f hf
  rcases List.mem_cons.1 hf with rfl|hf
  ·exact ⟨(g1.le m2).le m3,by show (stkF [[102],[103]]).length<_;decide,by show ([97,32,49]:Bst).length<_;decide,hc _ (.inl rfl)⟩
  rcases List.mem_cons.1 hf with rfl|hf
  ·exact ⟨g2.le m3,by show (stkF [[102],[103]]).length<_;decide,by show ([98]:Bst).length<_;decide,hc _ (.inl rfl)⟩
  ·rw[List.mem_singleton.1 hf]
   exact ⟨g3,by show (stkF []).length<_;decide,by show ([98]:Bst).length<_;decide,hc _ (.inr rfl)⟩
 have e2:=kn_E2 v1 v2 v3
 have e3:=kn_E3 v1 v2 v3
 have eT:=kn_T v1 v2 v3
 refine Stop.go ?_
 refine Go1.mk ?_;repeat' ((first|(with_reducible refine Go1.go ?_)|((with_reducible refine isCall (f:=16) ?_);refine callA ?_)|((with_reducible refine isCallS (f:=16) ?_);refine (gsplit_bor 11 3 _ [kn1 v1,kn2 v2,kn3 v3] 2 rfl ho (by simp) (fun h=>absurd e2 h) (fun _ x2 M4 O2 m4 hO2 gO2=>Stop.mk ?_)))|(refine And.intro ?_ ?_;(try simp only[sxO]at *);omega)|fail)<;>(try simp (maxSteps:=1000000) only [n1,faV,o1,o2,o3,←n4,faF_ment,faF_kill,cE_ment,cE_kill,hasK_nil,bs_mk,bs_app,bs_ext,bs_size,bs_toList,bs_at,bs_cells,List.take_length,imp_ga,guard_pk,guard_pk2,↓hold_pre,awayP,runOps,regK,step1,newK,genR,appR,obl,buildR,Value.cells,closeK,keepH,outV,retK,ret1,retC,RetV,Option.getD,runD,stepD,afterK,undef,simprocAttr,sxB,↓sxD,sxE,sxTab]))
 have m4:Mem.le M3 M4:=m4
 rw[eT]at hO2
 obtain rfl:=hO2.uniq kn_g2
 refine Stop.go ?_
 obtain ⟨L2,b1,b2,b3⟩:=gO2
 have p1:=b1.one
 refine Go1.mk ?_;repeat' ((first|(with_reducible refine Go1.go ?_)|((with_reducible refine isCall (f:=16) ?_);refine callA ?_)|((with_reducible refine isCallS (f:=16) ?_);refine (gsplit_bor 11 3 _ [kn1 v1,kn2 v2,kn3 v3] 3 rfl (fun f hf=>⟨(ho f hf).1.le m4,(ho f hf).2⟩) (by simp) (fun h=>absurd e3 h) (fun _ x3 M5 O3 m5 hO3 gO3=>Stop.mk ?_)))|(refine And.intro ?_ ?_;(try simp only[sxO]at *);omega)|fail)<;>(try simp (maxSteps:=1000000) only [o1,o2,o3,p1,faF_ment,cE_ment,cE_kill,hasK_nil,bs_mk,bs_app,bs_ext,bs_size,bs_toList,bs_at,bs_cells,List.take_length,imp_ga,guard_pk,guard_pk2,↓hold_pre,awayP,runOps,regK,step1,newK,genR,appR,obl,buildR,Value.cells,closeK,keepH,outV,retK,ret1,retC,RetV,Option.getD,runD,stepD,afterK,undef,simprocAttr,sxB,↓sxD,sxE,sxTab]))
 have m5:Mem.le M4 M5:=m5
 rw[eT]at hO3
 obtain rfl:=hO3.uniq kn_g3
 have b1:=b1.le m5
 have hl2:L2.length=1:=by have:=congrArg List.length b3;simpa [knO2] using this
 have hz:0<L2.length:=by omega
 have p2:=b1.len
 have p3:=b1.sl
 have p4:=b1.nn hz
 have p5:=b1.pt hz
 rw[hl2]at p2
 have p8:=isPt_add 0 p5
 have p9:addP (addP (elemP x2 3 0) 0) 0=addP (elemP x2 3 0) 0:=addP_addP 0 0 p5
 have p6:lookM Try.prog 25 M5 (addP (elemP x2 3 0) 2)=some L2[0].u:=b1.atF (P:=Try.prog) (T:=25) (fun _=>rfl) tk25 tz25 hz (o:=2) (v:=L2[0].u) rfl
 have p7:lookM Try.prog 9 M5 (addP (elemP x2 3 0) 0)=some (.string (bs L2[0].m)):=b1.atF (P:=Try.prog) (T:=9) (fun _=>rfl) tk9 tz9 hz (o:=0) (v:=.string (bs L2[0].m)) rfl
 have hg:L2[0].o=(([97,32,35],knC),[0,1,2]):=by
  have h:(L2.map GX.o)[0]? = knO2[0]?:=by rw[b3]
  rw[List.getElem?_map,List.getElem?_eq_getElem hz]at h
  exact Option.some.inj h
 have hgl:L2[0].l=[0,1,2]:=congrArg Prod.snd hg
 have hgm:L2[0].m=[97,32,35]:=congrArg (fun x=>x.1.1) hg
 have q1:=(b2 _ (List.getElem_mem hz)).2.le m5
 have q2:=q1.one
 have q3:=q1.len
 have q4:=q1.sl
 rw[hgl]at q3
 rw[hgm]at p7
 have q3:slen L2[0].u=3:=q3
 clear hg hgl hgm
 generalize L2[0].u=gu at *
 have c1:x3.oneCell'=true:=by obtain ⟨_,h,_⟩:=gO3;exact h.one
 have hl3:slen x3=2∧isSl x3=true:=by
  obtain ⟨L3,h1,_,h3⟩:=gO3
  refine ⟨?_,h1.sl⟩
  rw[h1.len]
  have:=congrArg List.length h3;simpa [knO3] using this
 obtain ⟨c2,c3⟩:=hl3
 have elr:lrgO knO3=1:=by decide +kernel
 refine Stop.go ?_
 refine Go1.mk ?_;repeat' ((first|(with_reducible refine Go1.go ?_)|(((with_reducible refine isCall (f:=26) ?_);refine callA_nil (by kernel_rfl) ?_;refine (plargest_ok x3 knO3 gO3 knO3_ok (Stop.mk ?_))))|(refine And.intro ?_ ?_;(try simp only[sxO]at *);omega)|fail)<;>(try simp (maxSteps:=1000000) only [o1,o2,o3,p1,p2,p3,p4,p5,p6,p7,p8,p9,q2,q3,q4,c1,c2,c3,faF_ment,cE_ment,cE_kill,hasK_nil,bs_mk,bs_app,bs_ext,bs_size,bs_toList,bs_at,bs_cells,List.take_length,imp_ga,guard_pk,guard_pk2,↓hold_pre,awayP,runOps,regK,step1,newK,genR,appR,obl,buildR,Value.cells,closeK,keepH,outV,retK,ret1,retC,RetV,Option.getD,runD,stepD,afterK,undef,simprocAttr,sxB,↓sxD,sxE,sxTab]))
 rw[elr]
 refine Stop.go ?_
 refine Go1.mk ?_;repeat' ((first|(with_reducible refine Go1.go ?_)|(refine And.intro ?_ ?_;(try simp only[sxO]at *);omega)|fail)<;>(try simp (maxSteps:=1000000) only [hasK_nil,bs_mk,bs_app,bs_ext,bs_size,bs_toList,bs_at,bs_cells,List.take_length,imp_ga,guard_pk,guard_pk2,↓hold_pre,awayP,runOps,regK,step1,newK,genR,appR,obl,buildR,Value.cells,closeK,keepH,outV,retK,ret1,retC,RetV,Option.getD,runD,stepD,afterK,undef,simprocAttr,sxB,↓sxD,sxE,sxTab]))
 exact hK M5 (m1.trans (m2.trans (m3.trans (m4.trans m5))))
end
section
variable {M:Mem}{K:AV→Hp→Mem→Prop}
end
structure AnsG (L:List Fa) (d:Int) (O:List GO):Prop where
 ok:sgnE L d=0→GrpO (L.map faB) d O
 no:sgnE L d≠0→O=[]
theorem AnsG.uniq{L:List Fa}{d:Int}{O O':List GO}(h:AnsG L d O)(h':AnsG L d O'):O=O':=by
 by_cases he:sgnE L d=0
 ·exact (h.ok he).uniq (h'.ok he)
 ·rw[h.no he,h'.no he]
theorem sgnE_64{L:List Fa}{d:Int}(he:sgnE L d=0):L.length≤64:=by
 unfold sgnE at he
 split at he
 ·cases he
 ·split at he
  ·cases he
  ·split at he
   ·cases he
   ·omega
theorem AnsG.good{M:Mem}{L:List Fa}{d:Int}{O:List GO}(h:AnsG L d O)(ho:∀f∈L,faOk M f):okO O:=by
 by_cases he:sgnE L d=0
 ·refine (h.ok he).ok (fun s hs=>?_) (by rw[List.length_map];exact sgnE_64 he)
  obtain ⟨f,hf,rfl⟩:=List.mem_map.1 hs
  exact okB_fa (ho f hf)
 ·rw[h.no he];exact ⟨Nat.zero_le _,fun o ho=>by cases ho⟩
theorem GRV.nil(M:Mem):GRV M (.slice none 0 0) []:=⟨[],slM_nil _ _ _,(fun g hg=>by cases hg),rfl⟩
theorem faOk.le{M M':Mem}{f:Fa}(h:faOk M f)(hM:Mem.le M M'):faOk M' f:=⟨h.1.le hM,h.2⟩
def faE1(f:Fa):Fa:=(f.1,f.2.1,-1,f.2.2.2)
theorem faF_setE:∀{X:List Fa} {i:Nat} (h:i<X.length),(faF X).set (i*5+2) (.ext (.int .i64 (-1)))=faF (X.set i (faE1 X[i]))
 | x :: X,0,_=>by simp[faF,faC,faE1]
 | x :: X,i+1,h=>by
  have:=faF_setE (X:=X) (i:=i) (Nat.lt_of_succ_lt_succ h)
  have e:∀L:List Fa,∀y:Fa,faF (y :: L)=[.ext (.string (bs y.1)),.ext (.string (bs y.2.1)),.ext (.int .i64 y.2.2.1),.ext (.string (bs y.2.2.2.1)),.ext y.2.2.2.2.1]++faF L:=fun L y=>by simp[faF,faC]
  rw[List.set_cons_succ,e,e,List.set_append_right _ _ (by simp;omega),show (i+1)*5+2-[AV.ext (.string (bs x.1)),.ext (.string (bs x.2.1)),.ext (.int .i64 x.2.2.1),.ext (.string (bs x.2.2.2.1)),.ext x.2.2.2.2.1].length=i*5+2 by simp;omega,this]
  rfl
section
variable {M:Mem}{K:AV→Hp→Mem→Prop}
theorem psplit_ok(u:Value)(L:List Fa)(d:Int)(hu:IsR M 5 faC u L)(ho:∀f∈L,faOk M f)(hb:L.length<1000000)(hK:∀u' M' O,Mem.le M M'→AnsG L d O→GRV M' u' O→K (.ext (.tuple #[u',.int .i64 (sgnE L d)])) [] M'):CallS Try.prog 16 [.ext u,.ext (.int .i64 d)] [] M [] K:=
 gsplit_ok u L d hu ho hb (fun he M1 m1=>hK _ M1 [] m1 ⟨fun h=>absurd h he,fun _=>rfl⟩ (GRV.nil _)) fun he u' M1 O m1 h1 h2=>by
  have h:=hK u' M1 O m1 ⟨fun _=>h1,fun h=>absurd he h⟩ h2.v
  rw[he]at h;exact h
theorem qsplit_ok(u:Value)(L:List Fa)(d:Int)(hu:IsR M 5 faC u L)(ho:∀f∈L,faOk M f)(hb:L.length<1000000)(hK:∀u' M' O,Mem.le M M'→AnsG L d O→GRV M' u' O→K (.ext (.tuple #[u',.int .i64 (sgnE L d)])) [] M'):CallS Try.prog 24 [.ext u,.ext (.int .i64 d)] [] M [] K:=
 rsplit_ok u L d hu ho hb (fun he M1 m1=>hK _ M1 [] m1 ⟨fun h=>absurd h he,fun _=>rfl⟩ (GRV.nil _)) fun he u' M1 O m1 h1 h2=>by
  have h:=hK u' M1 O m1 ⟨fun _=>h1,fun h=>absurd he h⟩ h2
  rw[he]at h;exact h
def faA:Fa:=([112],[116],0,[97],.slice none 0 0,[])
theorem faA_ok:faOk M faA:=⟨slM_nil _ _ _,by decide,by decide,fun c hc=>by cases hc⟩
def gsA(M:Mem)(v0 v1:Value)(d:Int)(p n:Nat)(X:List Fa):St:={env:=[(8,.slo 122 0 n 5),(7,.own 40 0),(1,.ext v1),(2,.ext (.int .i64 d))],hp:=[(122,34,faF X),(40,38,tpH v0 p)],M:=M,kb:=19,fx:=[]}
def gsB(M:Mem)(v1 vx:Value)(d:Int)(i:Nat):St:={env:=[(54,.ext (.int .i64 (i:Int))),(53,.ext (.int .i64 2)),(52,.slo 71 0 2 1),(2,.ext (.int .i64 d))],hp:=[(71,42,[.ext v1,.ext vx])],M:=M,kb:=19,fx:=[]}
theorem splits27_ok(v0:Value)(l0:List Int)(v1:Value)(R:List Fa)(d:Int)(hl:IsL M intV64 v0 l0)(hu:IsR M 5 faC v1 R)(ho:∀f∈R,faOk M f)(hK:∀M',Mem.le M M'→K (.ext (.bool true)) [] M'):CallS Try.prog 8 [.ext v0,.ext v1,.ext (.int .i64 d)] [] M [] K:=by
 refine inlS (cs:=[8,10]) Try.mixed Try.func8 rfl (by kernel_rfl) 19 rfl rfl ?_
 simp only[Try.f8]
 have vo:=hl.one
 have uo:=hu.one
 have ul:=hu.len
 have us:=hu.sl
 by_cases hc1:100<R.length
 ·have d1:decide ((100:Int)<(R.length:Int))=true:=by rw[decide_eq_true_eq];omega
  (try with_reducible refine Fz.of ?_);refine Go1.mk ?_;repeat' ((first|(with_reducible refine Go1.go ?_)|(((with_reducible refine isCall (f:=9) ?_);refine callA_nil (by kernel_rfl) ?_;refine (known27_ok (fun M1 m1=>Stop.mk ?_))))|(refine And.intro ?_ ?_;(try simp only[sxO]at *);omega)|fail)<;>(try simp (maxSteps:=1000000) only [uo,ul,us,vo,d1,gt_iff_lt,hasK_nil,↓hold_pre,awayP,runOps,regK,step1,newK,genR,appR,obl,buildR,Value.cells,closeK,keepH,outV,retK,ret1,retC,RetV,Option.getD,runD,stepD,afterK,undef,simprocAttr,sxB,↓sxD,sxE,sxTab]))
  refine Stop.go ?_
  (try with_reducible refine Fz.of ?_);refine Go1.mk ?_;repeat' ((first|(with_reducible refine Go1.go ?_)|(refine And.intro ?_ ?_;(try simp only[sxO]at *);omega)|fail)<;>(try simp (maxSteps:=1000000) only [hasK_nil,↓hold_pre,awayP,runOps,regK,step1,newK,genR,appR,obl,buildR,Value.cells,closeK,keepH,outV,retK,ret1,retC,RetV,Option.getD,runD,stepD,afterK,undef,simprocAttr,sxB,↓sxD,sxE,sxTab]))
  exact hK _ m1
 have d1:decide ((100:Int)<(R.length:Int))=false:=by rw[decide_eq_false_iff_not];omega
 (try with_reducible refine Fz.of ?_);refine Go1.mk ?_;repeat' ((first|(with_reducible refine Go1.go ?_)|((with_reducible refine isCall (f:=15) ?_);refine callA ?_)|((with_reducible refine isCallS (f:=15) ?_);refine (failuresO_ok v0 l0 0 16 0 hl (by decide) (by decide) (by decide) (fun n X M1 p m1 hn hX hp hf=>Stop.mk ?_)))|(refine And.intro ?_ ?_;(try simp only[sxO]at *);omega)|fail)<;>(try simp (maxSteps:=1000000) only [uo,ul,us,vo,d1,gt_iff_lt,hasK_nil,↓hold_pre,awayP,runOps,regK,step1,newK,genR,appR,obl,buildR,Value.cells,closeK,keepH,outV,retK,ret1,retC,RetV,Option.getD,runD,stepD,afterK,undef,simprocAttr,sxB,↓sxD,sxE,sxTab]))
 have m1:Mem.le M M1:=m1
 have lX:=faF_len X
 rw[←hn]at lX
 refine Stop.go ?_
 (try with_reducible refine Fz.of ?_);refine Go1.mk ?_;repeat' ((first|(with_reducible refine Go1.go ?_)|(refine And.intro ?_ ?_;(try simp only[sxO]at *);omega)|fail)<;>(try simp (maxSteps:=1000000) only [tpH,uo,ul,us,vo,lX,faF_ment,faF_kill,hasK_nil,↓hold_pre,awayP,runOps,regK,step1,newK,genR,appR,obl,buildR,Value.cells,closeK,keepH,outV,retK,ret1,retC,RetV,Option.getD,runD,stepD,afterK,undef,simprocAttr,sxB,↓sxD,sxE,sxTab]))
 refine ⟨fun z=>∃p' X',p'<6000∧X'.length≤65∧(∀f∈X',faOk M1 f)∧z=gsA M1 v0 v1 d p' X'.length X',?_,?_⟩
 ·(try with_reducible refine Fz.of ?_);refine Go1.mk ?_;repeat' ((first|(with_reducible refine Go1.go ?_)|((with_reducible refine isCall (f:=23) ?_);refine callA ?_)|((with_reducible refine isCallS (f:=23) ?_);refine (chance_ok 40 v0 l0 _ _ _ (hl.le m1) (by omega) (by omega) (by omega) (fun b=>Stop.mk ?_)))|(refine And.intro ?_ ?_;(try simp only[sxO]at *);omega)|fail)<;>(try simp (maxSteps:=1000000) only [uo,ul,us,vo,lX,faF_ment,faF_kill,hasK_nil,↓hold_pre,awayP,runOps,regK,step1,newK,genR,appR,obl,buildR,Value.cells,closeK,keepH,outV,retK,ret1,retC,RetV,Option.getD,runD,stepD,afterK,undef,simprocAttr,sxB,↓sxD,sxE,sxTab]))
  cases b with
  | false=>
   refine Stop.go ?_
   (try with_reducible refine Fz.of ?_);refine Go1.mk ?_;repeat' ((first|(with_reducible refine Go1.go ?_)|(refine And.intro ?_ ?_;(try simp only[sxO]at *);omega)|fail)<;>(try simp (maxSteps:=1000000) only [uo,ul,us,vo,lX,faF_ment,faF_kill,hasK_nil,↓hold_pre,awayP,runOps,regK,step1,newK,genR,appR,obl,buildR,Value.cells,closeK,keepH,outV,retK,ret1,retC,RetV,Option.getD,runD,stepD,afterK,undef,simprocAttr,sxB,↓sxD,sxE,sxTab]))
   exact ⟨gsA M1 v0 v1 d (p+1) X.length X,le_sub ⟨by simp[lk,gsA,hn],rfl,rfl,rfl,trivial⟩ ⟨rfl,rfl,trivial⟩ rfl rfl rfl (keepLt_of rfl),p+1,X,by omega,by omega,fun f h=>(hf f h).2,rfl⟩
  | true=>
   refine Stop.go ?_
   (try with_reducible refine Fz.of ?_);refine Go1.mk ?_;repeat' ((first|(with_reducible refine Go1.go ?_)|(refine And.intro ?_ ?_;(try simp only[sxO]at *);omega)|fail)<;>(try simp (maxSteps:=1000000) only [uo,ul,us,vo,lX,faF_ment,faF_kill,hasK_nil,↓hold_pre,awayP,runOps,regK,step1,newK,genR,appR,obl,buildR,Value.cells,closeK,keepH,outV,retK,ret1,retC,RetV,Option.getD,runD,stepD,afterK,undef,simprocAttr,sxB,↓sxD,sxE,sxTab]))
   refine ⟨fun k z=>∃p' X',k=70-X'.length∧p'≤4000+X'.length∧X'.length≤65∧(∀f∈X',faOk M1 f)∧z=gsA M1 v0 v1 d p' X'.length X',⟨_,gsA M1 v0 v1 d (p+1) X.length X,le_sub ⟨by simp[lk,gsA,hn],rfl,rfl,rfl,trivial⟩ ⟨rfl,rfl,trivial⟩ rfl rfl rfl (keepLt_of rfl),p+1,X,rfl,by omega,by omega,fun f h=>(hf f h).2,rfl⟩,?_⟩
   rintro k z ⟨p',Y,rfl,hp',hY,hYf,rfl⟩
   have lY:=faF_len Y
   (try with_reducible refine Fz.of ?_);refine Go1.mk ?_;repeat' ((first|(with_reducible refine Go1.go ?_)|((with_reducible refine isCall (f:=21) ?_);refine callA ?_)|((with_reducible refine isCallS (f:=21) ?_);refine (nextI_ok 40 v0 l0 _ _ (hl.le m1) (by omega) (by omega) (by omega) (fun x hx0 hx1=>Stop.mk ?_)))|(refine And.intro ?_ ?_;(try simp only[sxO]at *);omega)|fail)<;>(try simp (maxSteps:=1000000) only [tpH,gsA,uo,ul,us,vo,lY,faF_ment,faF_kill,hasK_nil,↓hold_pre,awayP,runOps,regK,step1,newK,genR,appR,obl,buildR,Value.cells,closeK,keepH,outV,retK,ret1,retC,RetV,Option.getD,runD,stepD,afterK,undef,simprocAttr,sxB,↓sxD,sxE,sxTab]))
   obtain ⟨y,rfl⟩:=Int.eq_ofNat_of_zero_le hx0
   have wy:IntKind.i64.wrap (63+(y:Int))=((63+y:Nat):Int):=by rw[wrap_id (by omega) (by omega)];omega
   by_cases hlt:Y.length<63+y
   ·have c1:decide ((Y.length:Int)<((63+y:Nat):Int))=true:=by rw[decide_eq_true_eq];omega
    have hs:=faF_app Y [112] [116] 0 [97] (.slice none 0 0) []
    have hs:faF Y++[.ext (.string (bs [112])),.ext (.string (bs [116])),.ext (.int .i64 0),.ext (.string (bs [97])),.ext (.slice none 0 0)]=faF (Y++[faA]):=hs
    refine Stop.go ?_
    (try with_reducible refine Fz.of ?_);refine Go1.mk ?_;repeat' ((first|(with_reducible refine Go1.go ?_)|(((with_reducible refine isCall (f:=22) ?_);refine callA_nil (by kernel_rfl) ?_;refine (fail_nil [97] ?_)))|(refine And.intro ?_ ?_;(try simp only[sxO]at *);omega)|fail)<;>(try simp (maxSteps:=1000000) only [wy,c1,faV,hs,maxLen,uo,ul,us,vo,lY,faF_ment,faF_kill,Nat.mul_one,hasK_nil,bs_mk,bs_app,bs_ext,bs_size,bs_toList,bs_at,bs_cells,List.take_length,imp_ga,guard_pk,guard_pk2,↓hold_pre,awayP,runOps,regK,step1,newK,genR,appR,obl,buildR,Value.cells,closeK,keepH,outV,retK,ret1,retC,RetV,Option.getD,runD,stepD,afterK,undef,simprocAttr,sxB,↓sxD,sxE,sxTab]))
    exact ⟨70-(Y++[faA]).length,gsA M1 v0 v1 d (p'+1) (Y++[faA]).length (Y++[faA]),by simp;omega,le_sub ⟨by simp[lk,gsA],rfl,rfl,rfl,trivial⟩ ⟨by simp[lkH,gsA],rfl,trivial⟩ rfl rfl rfl (keepLt_of rfl),p'+1,_,rfl,by simp;omega,by simp;omega,(fun f h=>by
     rcases List.mem_append.1 h with h|h
     ·exact hYf f h
     ·rw[List.mem_singleton.1 h];exact faA_ok),rfl⟩
   ·have c1:decide ((Y.length:Int)<((63+y:Nat):Int))=false:=by rw[decide_eq_false_iff_not];omega
    refine Stop.go ?_
    (try with_reducible refine Fz.of ?_);refine Go1.mk ?_;repeat' ((first|(with_reducible refine Go1.go ?_)|(refine And.intro ?_ ?_;(try simp only[sxO]at *);omega)|fail)<;>(try simp (maxSteps:=1000000) only [wy,c1,faV,uo,ul,us,vo,lY,faF_ment,faF_kill,Nat.mul_one,hasK_nil,bs_mk,bs_app,bs_ext,bs_size,bs_toList,bs_at,bs_cells,List.take_length,imp_ga,guard_pk,guard_pk2,↓hold_pre,awayP,runOps,regK,step1,newK,genR,appR,obl,buildR,Value.cells,closeK,keepH,outV,retK,ret1,retC,RetV,Option.getD,runD,stepD,afterK,undef,simprocAttr,sxB,↓sxD,sxE,sxTab]))
    exact ⟨gsA M1 v0 v1 d (p'+1) Y.length Y,le_sub ⟨rfl,rfl,rfl,rfl,trivial⟩ ⟨rfl,rfl,trivial⟩ rfl rfl rfl (keepLt_of rfl),p'+1,Y,by omega,hY,hYf,rfl⟩
 clear hf hX hp hn lX X n
 rintro z ⟨p',X,hp',hX,hXf,rfl⟩
 have lX:=faF_len X
 (try with_reducible refine Fz.of ?_);refine Go1.mk ?_;repeat' ((first|(with_reducible refine Go1.go ?_)|(refine And.intro ?_ ?_;(try simp only[sxO]at *);omega)|fail)<;>(try simp (maxSteps:=1000000) only [tpH,gsA,uo,ul,us,vo,lX,faF_ment,faF_kill,hasK_nil,↓hold_pre,awayP,runOps,regK,step1,newK,genR,appR,obl,buildR,Value.cells,closeK,keepH,outV,retK,ret1,retC,RetV,Option.getD,runD,stepD,afterK,undef,simprocAttr,sxB,↓sxD,sxE,sxTab]))
 refine ⟨fun z=>∃p' X',X'.length≤65∧(∀f∈X',faOk M1 f)∧z=gsA M1 v0 v1 d p' X'.length X',?_,?_⟩
 ·by_cases h0:0<X.length
  case neg=>
   have c0:decide ((0:Int)<(X.length:Int))=false:=by rw[decide_eq_false_iff_not];omega
   (try with_reducible refine Fz.of ?_);refine Go1.mk ?_;repeat' ((first|(with_reducible refine Go1.go ?_)|(refine And.intro ?_ ?_;(try simp only[sxO]at *);omega)|fail)<;>(try simp (maxSteps:=1000000) only [c0,gt_iff_lt,uo,ul,us,vo,lX,faF_ment,faF_kill,hasK_nil,↓hold_pre,awayP,runOps,regK,step1,newK,genR,appR,obl,buildR,Value.cells,closeK,keepH,outV,retK,ret1,retC,RetV,Option.getD,runD,stepD,afterK,undef,simprocAttr,sxB,↓sxD,sxE,sxTab]))
   exact ⟨gsA M1 v0 v1 d p' X.length X,le_sub ⟨rfl,rfl,rfl,rfl,trivial⟩ ⟨rfl,rfl,trivial⟩ rfl rfl rfl (keepLt_of rfl),p',X,hX,hXf,rfl⟩
  have c0:decide ((0:Int)<(X.length:Int))=true:=by rw[decide_eq_true_eq];omega
  (try with_reducible refine Fz.of ?_);refine Go1.mk ?_;repeat' ((first|(with_reducible refine Go1.go ?_)|((with_reducible refine isCall (f:=23) ?_);refine callA ?_)|((with_reducible refine isCallS (f:=23) ?_);refine (chance_ok 40 v0 l0 _ _ _ (hl.le m1) (by omega) (by omega) (by omega) (fun b=>Stop.mk ?_)))|(refine And.intro ?_ ?_;(try simp only[sxO]at *);omega)|fail)<;>(try simp (maxSteps:=1000000) only [c0,gt_iff_lt,uo,ul,us,vo,lX,faF_ment,faF_kill,hasK_nil,↓hold_pre,awayP,runOps,regK,step1,newK,genR,appR,obl,buildR,Value.cells,closeK,keepH,outV,retK,ret1,retC,RetV,Option.getD,runD,stepD,afterK,undef,simprocAttr,sxB,↓sxD,sxE,sxTab]))
  cases b with
  | false=>
   refine Stop.go ?_
   (try with_reducible refine Fz.of ?_);refine Go1.mk ?_;repeat' ((first|(with_reducible refine Go1.go ?_)|(refine And.intro ?_ ?_;(try simp only[sxO]at *);omega)|fail)<;>(try simp (maxSteps:=1000000) only [uo,ul,us,vo,lX,faF_ment,faF_kill,hasK_nil,↓hold_pre,awayP,runOps,regK,step1,newK,genR,appR,obl,buildR,Value.cells,closeK,keepH,outV,retK,ret1,retC,RetV,Option.getD,runD,stepD,afterK,undef,simprocAttr,sxB,↓sxD,sxE,sxTab]))
   exact ⟨gsA M1 v0 v1 d (p'+1) X.length X,le_sub ⟨rfl,rfl,rfl,rfl,trivial⟩ ⟨rfl,rfl,trivial⟩ rfl rfl rfl (keepLt_of rfl),p'+1,X,hX,hXf,rfl⟩
  | true=>
   refine Stop.go ?_
   (try with_reducible refine Fz.of ?_);refine Go1.mk ?_;repeat' ((first|(with_reducible refine Go1.go ?_)|((with_reducible refine isCall (f:=21) ?_);refine callA ?_)|((with_reducible refine isCallS (f:=21) ?_);refine (nextI_ok 40 v0 l0 _ _ (hl.le m1) (by omega) (by omega) (by omega) (fun x hx0 hx1=>Stop.mk ?_)))|(refine And.intro ?_ ?_;(try simp only[sxO]at *);omega)|fail)<;>(try simp (maxSteps:=1000000) only [uo,ul,us,vo,lX,faF_ment,faF_kill,hasK_nil,↓hold_pre,awayP,runOps,regK,step1,newK,genR,appR,obl,buildR,Value.cells,closeK,keepH,outV,retK,ret1,retC,RetV,Option.getD,runD,stepD,afterK,undef,simprocAttr,sxB,↓sxD,sxE,sxTab]))
   obtain ⟨y,rfl⟩:=Int.eq_ofNat_of_zero_le hx0
   have hyX:y<X.length:=by omega
   have z2:(0:Int)≤(y:Int):=by omega
   have z3:(y:Int)<(X.length:Int):=by omega
   have z4:y*5+2<X.length*5:=by omega
   have hs:=faF_setE hyX
   refine Stop.go ?_
   (try with_reducible refine Fz.of ?_);refine Go1.mk ?_;repeat' ((first|(with_reducible refine Go1.go ?_)|(refine And.intro ?_ ?_;(try simp only[sxO]at *);omega)|fail)<;>(try simp (maxSteps:=1000000) only [z2,z3,z4,hyX,hs,uo,ul,us,vo,lX,faF_ment,faF_kill,hasK_nil,↓hold_pre,awayP,runOps,regK,step1,newK,genR,appR,obl,buildR,Value.cells,closeK,keepH,outV,retK,ret1,retC,RetV,Option.getD,runD,stepD,afterK,undef,simprocAttr,sxB,↓sxD,sxE,sxTab]))
   exact ⟨gsA M1 v0 v1 d (p'+1+1) X.length (X.set y (faE1 X[y])),le_sub ⟨rfl,rfl,rfl,rfl,trivial⟩ ⟨rfl,rfl,trivial⟩ rfl rfl rfl (keepLt_of rfl),p'+1+1,X.set y (faE1 X[y]),by rw[List.length_set];exact hX,(fun f h=>by
    rcases List.mem_or_eq_of_mem_set h with h|h
    ·exact hXf f h
    ·rw[h];have h2:=hXf _ (List.getElem_mem hyX);exact h2),by rw[List.length_set]⟩
 clear hXf hX lX hp' X p'
 rintro z ⟨p',X,hX,hXf,rfl⟩
 refine Fz.flat (k:=122) (n:=X.length) (w:=5) (T:=34) 8 (X.flatMap faC) [(1,.ext v1),(2,.ext (.int .i64 d))] [] rfl rfl (by rw[flat_len (z:=5) (fun _=>rfl)]) (show 19≤122 by decide) ⟨rfl,rfl,trivial⟩ rfl trivial rfl (keepLt_of rfl) (fun j hj hj2=>?_) (fun M2 vx m2 hvx _=>?_)
 ·exfalso
  revert hj2
  simp only[gsA,lkH]
  have hj:j<19:=hj
  rw[if_neg (by omega),if_neg (by omega)];simp
 have m2:Mem.le M1 M2:=m2
 have hx2:IsR M2 5 faC vx X:=hvx
 have xo:=hx2.one
 have m12:=m1.trans m2
 have hu2:=hu.le m12
 have ho2:∀f∈R,faOk M2 f:=fun f h=>(ho f h).le m12
 have hXf2:∀f∈X,faOk M2 f:=fun f h=>(hXf f h).le m2
 (try with_reducible refine Fz.of ?_);refine Go1.mk ?_;repeat' ((first|(with_reducible refine Go1.go ?_)|(refine And.intro ?_ ?_;(try simp only[sxO]at *);omega)|fail)<;>(try simp (maxSteps:=1000000) only [gsA,uo,xo,hasK_nil,↓hold_pre,awayP,runOps,regK,step1,newK,genR,appR,obl,buildR,Value.cells,closeK,keepH,outV,retK,ret1,retC,RetV,Option.getD,runD,stepD,afterK,undef,simprocAttr,sxB,↓sxD,sxE,sxTab]))
 refine ⟨fun k z=>∃M' i,k=2-i∧i≤2∧Mem.le M2 M'∧z=gsB M' v1 vx d i,⟨2,gsB M2 v1 vx d 0,le_sub ⟨rfl,rfl,rfl,rfl,trivial⟩ ⟨rfl,trivial⟩ rfl rfl rfl (keepLt_of rfl),M2,0,rfl,by omega,Mem.le.refl _,rfl⟩,?_⟩
 rintro k z ⟨M3,i,rfl,hi,m3,rfl⟩
 by_cases hi2:i<2
 case neg=>
  obtain rfl:i=2:=by omega
  (try with_reducible refine Fz.of ?_);refine Go1.mk ?_;repeat' ((first|(with_reducible refine Go1.go ?_)|(((with_reducible refine isCall (f:=9) ?_);refine callA_nil (by kernel_rfl) ?_;refine (known27_ok (fun M4 m4=>Stop.mk ?_))))|(refine And.intro ?_ ?_;(try simp only[sxO]at *);omega)|fail)<;>(try simp (maxSteps:=1000000) only [gsB,uo,xo,hasK_nil,↓hold_pre,awayP,runOps,regK,step1,newK,genR,appR,obl,buildR,Value.cells,closeK,keepH,outV,retK,ret1,retC,RetV,Option.getD,runD,stepD,afterK,undef,simprocAttr,sxB,↓sxD,sxE,sxTab]))
  refine Stop.go ?_
  (try with_reducible refine Fz.of ?_);refine Go1.mk ?_;repeat' ((first|(with_reducible refine Go1.go ?_)|(refine And.intro ?_ ?_;(try simp only[sxO]at *);omega)|fail)<;>(try simp (maxSteps:=1000000) only [hasK_nil,↓hold_pre,awayP,runOps,regK,step1,newK,genR,appR,obl,buildR,Value.cells,closeK,keepH,outV,retK,ret1,retC,RetV,Option.getD,runD,stepD,afterK,undef,simprocAttr,sxB,↓sxD,sxE,sxTab]))
  exact hK _ (m12.trans (m3.trans m4))
 obtain ⟨w,Y,hwY,hYo,hYl,hat⟩:∃w Y,IsR M2 5 faC w Y∧(∀f∈Y,faOk M2 f)∧Y.length<1000000∧[AV.ext v1,.ext vx][i]? = some (.ext w):=by
  match i,hi2 with
  | 0,_=>exact ⟨v1,R,hu2,ho2,by omega,rfl⟩
  | 1,_=>exact ⟨vx,X,hx2,hXf2,by omega,rfl⟩
 have wo:=hwY.one
 have c1:decide ((i:Int)<2)=true:=by rw[decide_eq_true_eq];omega
 have z2:(0:Int)≤(i:Int):=by omega
 have z3:(i:Int)<2:=by omega
 have wi:IntKind.i64.wrap ((i:Int)+1)=((i+1:Nat):Int):=by rw[wrap_id (by omega) (by omega)];omega
 (try with_reducible refine Fz.of ?_);refine Go1.mk ?_;repeat' ((first|(with_reducible refine Go1.go ?_)|(((with_reducible refine isCall (f:=16) ?_);refine callA_nil (by kernel_rfl) ?_;refine (psplit_ok w Y d (hwY.le m3) (fun f h=>(hYo f h).le m3) hYl (fun ua M4 A m4 hA gA=>Stop.mk ?_))))|(refine And.intro ?_ ?_;(try simp only[sxO]at *);omega)|fail)<;>(try simp (maxSteps:=1000000) only [gsB,c1,z2,z3,hi2,hat,Nat.mul_one,wo,uo,xo,hasK_nil,↓hold_pre,awayP,runOps,regK,step1,newK,genR,appR,obl,buildR,Value.cells,closeK,keepH,outV,retK,ret1,retC,RetV,Option.getD,runD,stepD,afterK,undef,simprocAttr,sxB,↓sxD,sxE,sxTab]))
 have m4:Mem.le M3 M4:=m4
 have ao:ua.oneCell'=true:=by obtain ⟨_,h,_⟩:=gA;exact h.one
 refine Stop.go ?_
 (try with_reducible refine Fz.of ?_);refine Go1.mk ?_;repeat' ((first|(with_reducible refine Go1.go ?_)|(((with_reducible refine isCall (f:=24) ?_);refine callA_nil (by kernel_rfl) ?_;refine (qsplit_ok w Y d ((hwY.le m3).le m4) (fun f h=>((hYo f h).le m3).le m4) hYl (fun ub M5 B m5 hB gB=>Stop.mk ?_))))|(refine And.intro ?_ ?_;(try simp only[sxO]at *);omega)|fail)<;>(try simp (maxSteps:=1000000) only [wo,uo,xo,ao,hasK_nil,↓hold_pre,awayP,runOps,regK,step1,newK,genR,appR,obl,buildR,Value.cells,closeK,keepH,outV,retK,ret1,retC,RetV,Option.getD,runD,stepD,afterK,undef,simprocAttr,sxB,↓sxD,sxE,sxTab]))
 have m5:Mem.le M4 M5:=m5
 have bo:ub.oneCell'=true:=by obtain ⟨_,h,_⟩:=gB;exact h.one
 obtain rfl:=hA.uniq hB
 have kA:=hA.good hYo
 refine Stop.go ?_
 (try with_reducible refine Fz.of ?_);refine Go1.mk ?_;repeat' ((first|(with_reducible refine Go1.go ?_)|(((with_reducible refine isCall (f:=25) ?_);refine callA_nil (by kernel_rfl) ?_;refine (rsame_ok ua ub A A (gA.le m5) gB kA kA (Stop.mk ?_))))|(refine And.intro ?_ ?_;(try simp only[sxO]at *);omega)|fail)<;>(try simp (maxSteps:=1000000) only [wo,uo,xo,ao,bo,hasK_nil,↓hold_pre,awayP,runOps,regK,step1,newK,genR,appR,obl,buildR,Value.cells,closeK,keepH,outV,retK,ret1,retC,RetV,Option.getD,runD,stepD,afterK,undef,simprocAttr,sxB,↓sxD,sxE,sxTab]))
 refine Stop.go ?_
 (try with_reducible refine Fz.of ?_);refine Go1.mk ?_;repeat' ((first|(with_reducible refine Go1.go ?_)|(((with_reducible refine isCall (f:=26) ?_);refine callA_nil (by kernel_rfl) ?_;refine (plargest_ok ua A (gA.le m5) kA (Stop.mk ?_))))|(refine And.intro ?_ ?_;(try simp only[sxO]at *);omega)|fail)<;>(try simp (maxSteps:=1000000) only [wo,uo,xo,ao,bo,hasK_nil,↓hold_pre,awayP,runOps,regK,step1,newK,genR,appR,obl,buildR,Value.cells,closeK,keepH,outV,retK,ret1,retC,RetV,Option.getD,runD,stepD,afterK,undef,simprocAttr,sxB,↓sxD,sxE,sxTab]))
 refine Stop.go ?_
 (try with_reducible refine Fz.of ?_);refine Go1.mk ?_;repeat' ((first|(with_reducible refine Go1.go ?_)|(((with_reducible refine isCall (f:=27) ?_);refine callA_nil (by kernel_rfl) ?_;refine (rlargest_ok ub A gB kA (Stop.mk ?_))))|(refine And.intro ?_ ?_;(try simp only[sxO]at *);omega)|fail)<;>(try simp (maxSteps:=1000000) only [wo,uo,xo,ao,bo,hasK_nil,↓hold_pre,awayP,runOps,regK,step1,newK,genR,appR,obl,buildR,Value.cells,closeK,keepH,outV,retK,ret1,retC,RetV,Option.getD,runD,stepD,afterK,undef,simprocAttr,sxB,↓sxD,sxE,sxTab]))
 refine Stop.go ?_
 (try with_reducible refine Fz.of ?_);refine Go1.mk ?_;repeat' ((first|(with_reducible refine Go1.go ?_)|(refine And.intro ?_ ?_;(try simp only[sxO]at *);omega)|fail)<;>(try simp (maxSteps:=1000000) only [wi,wo,uo,xo,ao,bo,hasK_nil,↓hold_pre,awayP,runOps,regK,step1,newK,genR,appR,obl,buildR,Value.cells,closeK,keepH,outV,retK,ret1,retC,RetV,Option.getD,runD,stepD,afterK,undef,simprocAttr,sxB,↓sxD,sxE,sxTab]))
 exact ⟨2-(i+1),gsB M5 v1 vx d (i+1),by omega,le_sub ⟨rfl,rfl,rfl,rfl,trivial⟩ ⟨rfl,trivial⟩ rfl rfl rfl (keepLt_of rfl),M5,i+1,rfl,by omega,m3.trans (m4.trans m5),rfl⟩
end
end Go.Proofs.Ytoblkpomikokhaa.Sx
namespace Go.Proofs.Ytoblkpomikokhaa.Sx
set_option linter.unusedVariables false
open Go Go.RowKit Go.ChangeShapes Go.WideShapes Go.ChangeAt
section
variable {H:Type}{enc:TypeId×Value→H}{P:Program}{W:World}{base:Nat}{spare:Nat→Bool}{held:Bool}
theorem cell_rowF{t e:TypeId}{z fuel:Nat}{v:Value}{x0:DataW H×List MemPlace}(ht:P.underlying t=some (.slice e))(hz:P.cellsOf e=z)(hz0:0<z)(hf:DataW.trod enc P W base spare held fuel t [v]=some x0)(hs:small P t x0.1) :
  ∃n cs,SlM (heapM W) z v n cs∧n*P.bytesOf e≤140737488351232∧∀i,i<n→∃fu x,DataW.trod enc P W base spare held fu e ((cs.drop (i*z)).take z)=some x∧small P e x.1:=by
 rcases Go.Deep.open_slice ht hf with ⟨h0,_⟩|⟨a,len,cap,m,n,D,Pl,hcs,hb,hl,hm,hmm,hx,hi⟩
 ·obtain rfl:v=.slice none 0 0:=by simpa using h0
  exact ⟨0,[],slM_nil _ _ _,by simp,fun i hi=>by omega⟩
 ·obtain rfl:v=.slice (some a) len cap:=by simpa using hcs
  have hlm:len≤m:=by rw[hmm];split<;>omega
  have hx1:=congrArg Prod.fst hx
  have hw:len*P.bytesOf e≤140737488351232:=by
   have:=hs (((List.range len).map D).length+((List.range (m-len)).map fun j=>D (len+j)).length |> (· * P.bytesOf e)) (by rw[hx1];simp[DataW.weights,ht])
   simp only[List.length_map,List.length_range]at this
   exact Nat.le_trans (Nat.mul_le_mul_right _ (Nat.le_add_right len (m-len))) this
  have hsm:∀i,i<len→small P e (D i):=fun i hin q hq=>hs q (by
   rw[hx1]
   simp only[DataW.weights,ht,List.mem_cons,List.mem_append]
   exact .inr (.inl (mem_wAll (List.mem_map.2 ⟨i,by simpa using hin,rfl⟩) hq)))
  subst hz
  by_cases h0:len=0
  ·subst h0
   exact ⟨0,[],slM_empty _ _ _ _,by simp,fun i hi=>by omega⟩
  have hsp:a.spot=none:=by
   ·obtain ⟨cs',h1,_⟩:=hi 0 (by omega)
    obtain ⟨_,h3,h4⟩:=World.cells?_some h1
    have h5:=h4 0 (by omega)
    rw[List.getElem?_eq_getElem (by omega)]at h5
    have h6:=(cell_heapM h5).1
    rw[Nat.zero_mul]at h6
    simpa [Addr.add] using h6
  have key:∀i,i<len→∃cs',cs'.length=P.cellsOf e∧(∀j,j<P.cellsOf e→cellM (heapM W) a.block (a.off+i*P.cellsOf e+j)=cs'[j]?)∧∃fu x,DataW.trod enc P W base spare held fu e cs'=some x∧small P e x.1:=by
   intro i hil
   obtain ⟨cs',h1,h2⟩:=hi i (by omega)
   obtain ⟨_,h3,h4⟩:=World.cells?_some h1
   refine ⟨cs',h3,fun j hj=>?_,_,_,h2,hsm i hil⟩
   have h5:=h4 j hj
   rw[List.getElem?_eq_getElem (by omega)]at h5 ⊢
   have h6:=(cell_heapM h5).2
   have hb1:∀(x:Addr) n,(x.add n).block=x.block:=fun x n=>by unfold Addr.add;split<;>rfl
   have hb2:∀(x:Addr) n,(x.add n).off=x.off+n:=fun x n=>by unfold Addr.add;split<;>simp_all
   rw[hb1,hb1,hb2,hb2]at h6
   exact h6
  let F:Nat→List Value:=fun i=>if h:i<len then (key i h).choose else []
  have hF:∀i (h:i<len),(F i).length=P.cellsOf e∧(∀j,j<P.cellsOf e→cellM (heapM W) a.block (a.off+i*P.cellsOf e+j)=(F i)[j]?)∧∃fu x,DataW.trod enc P W base spare held fu e (F i)=some x∧small P e x.1:=by
   intro i h
   have:=(key i h).choose_spec
   show (dite _ _ _:List Value).length=_∧_
   simp only[F,h,dite_true]
   exact this
  have hlen:∀k,k≤len→((List.range k).flatMap F).length=k*P.cellsOf e∧(∀j,j<k*P.cellsOf e→cellM (heapM W) a.block (a.off+j)=((List.range k).flatMap F)[j]?)∧∀i,i<k→(((List.range k).flatMap F).drop (i*P.cellsOf e)).take (P.cellsOf e)=F i:=by
   intro k
   induction k with
   | zero=>intro _;simp
   | succ k ih=>
    intro hk
    obtain ⟨a1,a2,a3⟩:=ih (by omega)
    obtain ⟨b1,b2,_⟩:=hF k (by omega)
    rw[List.range_succ,List.flatMap_append]
    simp only[List.flatMap_cons,List.flatMap_nil,List.append_nil]
    refine ⟨by rw[List.length_append,a1,b1,Nat.succ_mul],fun j hj=>?_,fun i hi=>?_⟩
    ·by_cases hjk:j<k*P.cellsOf e
     ·rw[List.getElem?_append_left (by omega)]
      exact a2 j hjk
     ·rw[List.getElem?_append_right (by omega),a1]
      have:=b2 (j-k*P.cellsOf e) (by rw[Nat.succ_mul]at hj;omega)
      rw[←this]
      congr 1
      omega
    ·by_cases hik:i<k
     ·rw[←a3 i hik]
      have h1:i*P.cellsOf e+P.cellsOf e≤k*P.cellsOf e:=by
       have:=Nat.mul_le_mul_right (P.cellsOf e) (show i+1≤k by omega)
       rw[Nat.succ_mul]at this
       exact this
      rw[List.drop_append_of_le_length (by omega),List.take_append_of_le_length (by rw[List.length_drop];omega)]
     ·obtain rfl:i=k:=by omega
      rw[List.drop_append_of_le_length (by omega),List.drop_eq_nil_of_le (by omega)]
      simp only[List.nil_append]
      exact List.take_of_length_le (by omega)
  obtain ⟨c1,c2,c3⟩:=hlen len (Nat.le_refl _)
  refine ⟨len,(List.range len).flatMap F,⟨rfl,rfl,hl,c1,?_⟩,hw,fun i hi=>?_⟩
  ·obtain ⟨b,off,sp⟩:=a
   obtain rfl:sp=none:=hsp
   refine rowM_of c1 fun i v hv=>?_
   have hlt:i<((List.range len).flatMap F).length:=(List.getElem?_eq_some_iff.1 hv).1
   rw[←hv]
   exact c2 i (by omega)
  ·rw[c3 i hi]
   exact (hF i hi).2.2
theorem opn_cell{α:Type}{t e:TypeId}{z B:Nat}{g:α→List Value}{ok:α→Prop}(ho:Opn enc P W base spare held e g ok)(hg:∀a,(g a).length=z)(hz:P.cellsOf e=z)(hz0:0<z)(hB:P.bytesOf e=B)(ht:P.underlying t=some (.slice e)){fu:Nat}{v:Value}{x:DataW H×List MemPlace}(h:DataW.trod enc P W base spare held fu t [v]=some x)(hs:small P t x.1) :
  ∃l:List α,IsR (heapM W) z g v l∧l.length*B≤140737488351232∧∀a∈l,ok a:=by
 obtain ⟨n,cs,h1,h2,h3⟩:=cell_rowF ht hz hz0 h hs
 rw[hB]at h2
 have hcl:=h1.size
 have key:∀i,i<n→∃y,(cs.drop (i*z)).take z=g y∧ok y:=fun i hi=>by
  obtain ⟨_,_,a,b⟩:=h3 i hi
  exact ho _ _ _ a b
 have all:∀k,k≤n→∃l:List α,l.length=k∧cs.take (k*z)=l.flatMap g∧∀a∈l,ok a:=by
  intro k
  induction k with
  | zero=>intro _;exact ⟨[],rfl,by simp,by simp⟩
  | succ k ih=>
   intro hk
   obtain ⟨l,e1,e2,e3⟩:=ih (by omega)
   obtain ⟨y,e4,e5⟩:=key k (by omega)
   refine ⟨l++[y],by simp[e1],?_,fun a ha=>?_⟩
   ·rw[List.flatMap_append,←e2,Nat.succ_mul,List.take_add,e4];simp
   ·rcases List.mem_append.1 ha with h|h
    ·exact e3 a h
    ·rw[List.mem_singleton.1 h];exact e5
 obtain ⟨l,e1,e2,e3⟩:=all n (Nat.le_refl _)
 rw[List.take_of_length_le (by omega)]at e2
 refine ⟨l,?_,by rw[e1];exact h2,e3⟩
 unfold IsR
 rw[e1,←e2];exact h1
theorem len5F{l:List Value}(h:l.length=5):∃a b c d e,l=[a,b,c,d,e]:=by
 rcases l with _|⟨a,_|⟨b,_|⟨c,_|⟨d,_|⟨e,_|⟨f,r⟩⟩⟩⟩⟩⟩<;>simp at h
 exact ⟨a,b,c,d,e,rfl⟩
theorem opn_fa{t nt it st sl ct:TypeId}{f0 f1 f2 f3:Field}(ht:P.underlying t=some (.struct #[f0,f1,f2,f3]))(hn:Opn enc P W base spare held nt (fun a:Bst×Bst=>[sbV a.1]++[sbV a.2]) (fun a=>a.1.length≤140737488351232∧a.2.length≤140737488351232))(hi:P.underlying it=some (.int .i64))(hst:P.underlying st=some .string)(hsl:P.underlying sl=some (.slice ct))
  (hc:Opn enc P W base spare held ct (fun a:Bst×Bst×Int=>[sbV a.1]++([sbV a.2.1]++[.int .i64 a.2.2])) (fun a=>a.1.length≤140737488351232∧a.2.1.length≤140737488351232∧(Lit.int .i64 a.2.2).wf=true))
  (hf:f0.type=nt∧f1.type=it∧f2.type=st∧f3.type=sl) (hof:f0.offset=0∧f1.offset=2∧f2.offset=3∧f3.offset=4) (hz:P.cellsOf t=5∧P.cellsOf nt=2∧P.cellsOf it=1∧P.cellsOf st=1∧P.cellsOf sl=1∧P.cellsOf ct=3∧P.bytesOf ct=40):Opn enc P W base spare held t faC (faOk (heapM W)):=fun fu cs x h hs=>by
 obtain ⟨z0,z1,z2,z3,z4,z5,z6⟩:=hz
 obtain ⟨o0,o1,o2,o3⟩:=hof
 obtain ⟨t0,t1,t2,t3⟩:=hf
 obtain ⟨hl,hg⟩:=opn_field ht h hs
 rw[z0]at hl
 obtain ⟨a0,a1,a2,a3,a4,rfl⟩:=len5F hl
 obtain ⟨_,_,e0,s0⟩:=hg 0 f0 rfl
 obtain ⟨_,_,e1,s1⟩:=hg 1 f1 rfl
 obtain ⟨_,_,e2,s2⟩:=hg 2 f2 rfl
 obtain ⟨_,_,e3,s3⟩:=hg 3 f3 rfl
 rw[t0]at e0 s0
 rw[t1]at e1 s1
 rw[t2]at e2 s2
 rw[t3]at e3 s3
 rw[o0,z1]at e0
 rw[o1,z2]at e1
 rw[o2,z3]at e2
 rw[o3,z4]at e3
 obtain ⟨⟨p,q⟩,h0,_⟩:=hn _ _ _ e0 s0
 obtain ⟨n,h1,_⟩:=opn_int hi _ _ _ e1 s1
 obtain ⟨m,h2,k2⟩:=opn_string hst _ _ _ e2 s2
 obtain ⟨X,h3,k3,k4⟩:=opn_cell hc (fun _=>rfl) z5 (by decide) z6 hsl (v:=a4) e3 s3
 have y0:[a0,a1]=[sbV p,sbV q]:=h0
 have y1:[a2]=[.int .i64 n]:=h1
 have y2:[a3]=[sbV m]:=h2
 simp only[List.cons.injEq,and_true]at y0 y1 y2
 clear h0 h1 h2 e0 e1 e2
 obtain ⟨rfl,rfl⟩:=y0
 obtain rfl:=y1
 obtain rfl:=y2
 refine ⟨(p,q,n,m,a4,X),rfl,h3,?_,?_,fun c hc'=>⟨(k4 c hc').1,(k4 c hc').2.1⟩⟩
 ·show X.length<1000000000000000;omega
 ·show m.length<1000000000000000;omega
end
end Go.Proofs.Ytoblkpomikokhaa.Sx
