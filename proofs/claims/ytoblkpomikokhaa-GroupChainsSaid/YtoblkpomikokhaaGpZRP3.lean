/- Part 28 of the texts of this claim: a symbolic executor and contracts of functions. -/
import Derived.Test.YtoblkpomikokhaaGpZRP2
import Derived.Test.YtoblkpomikokhaaGpZRCSub
namespace Go.Proofs.Ytoblkpomikokhaa.Sx
open Go Go.RowKit
set_option linter.unusedVariables false
set_option linter.unusedSimpArgs false
set_option maxRecDepth 100000
set_option maxHeartbeats 8000000
attribute [local congr] fin_congr finG_congr stepG_congr step1_congr runOps_congr brv_congr obl_congr condK_congr LoopK_congr seqK_congr CutK_congr vc_congr DrawK_congr regK_congr CallK_congr AskK_congr newK_congr retC_congr ret1_congr retK_congr outV_congr closeK_congr genR_congr appR_congr finD_congr finGD_congr stepGD_congr stepD_congr CallK0_congr runD_congr okR_congr CallS_congr vcX_congr
attribute [local congr] Stop_congr
def clF(X:List Stk):List AV:=(X.flatMap clC).map .ext
theorem clF_len(X:List Stk):(clF X).length=X.length*3:=by
 unfold clF
 rw[List.length_map,flat_len (z:=3) (fun _=>rfl)]
theorem clF_ment(X:List Stk):mentL (clF X)=[]:=mentL_ext _
theorem clF_kill(k:Nat)(X:List Stk):killL k (clF X)=clF X:=killL_exts _ _
theorem clF_app(X:List Stk)(s:Bst×Bst×Int):clF X++[.ext (.string (bs s.1)),.ext (.string (bs s.2.1)),.ext (.int .i64 s.2.2)]=clF (X++[s]):=by simp[clF,clC]
def faF(X:List Fa):List AV:=(X.flatMap faC).map .ext
theorem faF_len(X:List Fa):(faF X).length=X.length*5:=by
 unfold faF
 rw[List.length_map,flat_len (z:=5) (fun _=>rfl)]
theorem faF_ment(X:List Fa):mentL (faF X)=[]:=mentL_ext _
theorem faF_kill(k:Nat)(X:List Fa):killL k (faF X)=faF X:=killL_exts _ _
theorem faF_app(X:List Fa)(p t:Bst)(e:Int)(m:Bst)(u:Value)(C:List Stk):faF X++[.ext (.string (bs p)),.ext (.string (bs t)),.ext (.int .i64 e),.ext (.string (bs m)),.ext u]=faF (X++[(p,t,e,m,u,C)]):=by simp[faF,faC]
theorem FrzF.fail{K:AV→Hp→Mem→Prop}{H H2:Hp}{M':Mem}{k n:Nat}{T:TypeId}{a b c d:Value}(cs:List Value)(h1:lkH H k=none)(h2:cs.length=n*3)(h3:hasK k (mentH H2)=false)(h4:lkH H2 k=none)(h:∀u M'',Mem.le M' M''→SlM M'' 3 u n cs→FreshS M' u→K (.ext (.agg #[a,b,c,d,u])) H2 M''):FrzF K H (.ag false [.ext a,.ext b,.ext c,.ext d,.slo k 0 n 3]) ((k,T,cs.map .ext) :: H2) M':=
 .inr ⟨some false,[.ext a,.ext b,.ext c,.ext d],[],k,n,3,T,cs,H2,rfl,rfl,h4,h1,h2,by simp[mentL,AV.ment,hasK,h3],fun u M'' x y z=>h u M'' x y z⟩
structure drF (least:Nat) (f:Fa):Prop where
 pk:f.1=[112]
 ts:f.2.1.length=1
 e0:0≤f.2.2.1
 e1:f.2.2.1≤1
 l0:least≤f.2.2.2.2.2.length
 l1:f.2.2.2.2.2.length≤least+3
 cs:∀c∈f.2.2.2.2.2,c.1.length=1∧c.2.1=[120,46,103,111]
theorem drF.noE{least:Nat}{f:Fa}(h:drF least f)(hl:least≤50):faE f=0:=by
 obtain ⟨h1,h2,h3,h4,_,h5,_⟩:=h
 have e1:usB f.1 f.2.1=true:=by unfold usB;rw[h1,h2];decide
 have e2:plB f.2.2.1=true:=by unfold plB;simp[h3];omega
 unfold faE
 rw[e1,e2]
 simp only[Bool.and_self,if_true]
 rw[if_neg (by omega)]
section
variable {M:Mem}{K:AV→Hp→Mem→Prop}
def flSt(M:Mem)(v:Value)(m:Bst)(i:Nat)(X:List Stk):St:={env:=[(6,.ext (.int .i64 (i:Int))),(5,.own 105 0),(4,.own 104 0),(1,.ext v)],hp:=[(105,34,[.ext (.string (bs [112])),.ext (.string (bs [116])),.ext (.int .i64 0),.ext (.string (bs m)),.slo 125 0 i 3]),(125,74,clF X),(104,34,[.ext (.string (bs [])),.ext (.string (bs [])),.ext (.int .i64 0),.ext (.string (bs [])),.ext (.slice none 0 0)])],M:=M,kb:=100,fx:=[]}
def stkF(L:List Bst):List Stk:=L.zipIdx.map fun p=>(p.1,[120,46,103,111],(p.2:Int))
def fl0(M:Mem)(v:Value)(m:Bst):St:={env:=[(6,.ext (.int .i64 0)),(5,.own 105 0),(4,.own 104 0),(1,.ext v)],hp:=[(105,34,[.ext (.string (bs [112])),.ext (.string (bs [116])),.ext (.int .i64 0),.ext (.string (bs m)),.ext (.slice none 0 0)]),(104,34,[.ext (.string (bs [])),.ext (.string (bs [])),.ext (.int .i64 0),.ext (.string (bs [])),.ext (.slice none 0 0)])],M:=M,kb:=100,fx:=[]}
theorem fl0_le(M:Mem)(v:Value)(m:Bst):Le (fl0 M v m) (flSt M v m 0 []):=
 (le_nilH (s:=fl0 M v m) 105 4 125 74 34 _ 3 rfl rfl (.inl rfl)).trans (le_sub ⟨rfl,rfl,rfl,rfl,trivial⟩ ⟨rfl,rfl,rfl,trivial⟩ rfl rfl rfl (keepLt_of rfl))
theorem stkF_len(L:List Bst):(stkF L).length=L.length:=by simp[stkF]
theorem stkF_at(L:List Bst)(i:Nat)(h:i<L.length):(stkF L)[i]'(by rw[stkF_len];exact h)=(L[i],[120,46,103,111],(i:Int)):=by simp[stkF]
theorem fail_ok(m:Bst)(v:Value)(L:List Bst)(hv:IsL M sbV v L)(hL:L.length<1000)
  (hK:∀u M',Mem.le M M'→IsR M' 3 clC u (stkF L)→FreshS M u→K (.ext (faV [112] [116] 0 m u)) [] M'):CallS Try.prog 22 [.ext (.string (bs m)),.ext v] [] M [] K:=by
 refine CallS.frzF ?_
 refine inlS (cs:=[]) Try.mixed Try.func22 rfl (by kernel_rfl) 100 rfl rfl ?_
 simp only[Try.f22]
 have vo:=hv.one
 have vl:=hv.len
 have vs:=hv.sl
 have n1:bs [112]=⟨#[112]⟩:=rfl
 refine Go1.mk ?_;repeat' ((first|(with_reducible refine Go1.go ?_)|(refine And.intro ?_ ?_;(try simp only[sxO]at *);omega)|fail)<;>(try simp (maxSteps:=1000000) only [vo,vl,vs,bs_mk,bs_app,bs_ext,bs_size,bs_toList,bs_at,bs_cells,List.take_length,imp_ga,guard_pk,guard_pk2,↓hold_pre,awayP,runOps,regK,step1,newK,genR,appR,obl,buildR,Value.cells,closeK,keepH,outV,retK,ret1,retC,RetV,Option.getD,runD,stepD,afterK,undef,simprocAttr,sxB,↓sxD,sxE,sxTab]))
 refine ⟨fun q z=>∃i,q=L.length-i∧i≤L.length∧z=flSt M v m i ((stkF L).take i),⟨L.length,flSt M v m 0 [],Le.trans (le_sub (z:=fl0 M v m) ⟨rfl,rfl,rfl,rfl,trivial⟩ ⟨rfl,rfl,trivial⟩ rfl rfl rfl (keepLt_of rfl)) (fl0_le _ _ _),⟨0,by omega,by omega,rfl⟩⟩,?_⟩
 rintro q z ⟨i,rfl,hi,rfl⟩
 have lX:(clF ((stkF L).take i)).length=i*3:=by rw[clF_len,List.length_take,stkF_len,Nat.min_eq_left hi]
 by_cases hlt:i<L.length
 case neg=>
  obtain rfl:i=L.length:=by omega
  have y1:decide ((L.length:Int)<(L.length:Int))=false:=by simp
  rw[List.take_of_length_le (by rw[stkF_len];exact Nat.le_refl _)]at lX ⊢
  refine Go1.mk ?_;repeat' ((first|(with_reducible refine Go1.go ?_)|(refine And.intro ?_ ?_;(try simp only[sxO]at *);omega)|fail)<;>(try simp (maxSteps:=1000000) only [flSt,y1,vo,vl,vs,lX,clF_ment,clF_kill,hasK_nil,bs_mk,bs_app,bs_ext,bs_size,bs_toList,bs_at,bs_cells,List.take_length,imp_ga,guard_pk,guard_pk2,↓hold_pre,awayP,runOps,regK,step1,newK,genR,appR,obl,buildR,Value.cells,closeK,keepH,outV,retK,ret1,retC,RetV,Option.getD,runD,stepD,afterK,undef,simprocAttr,sxB,↓sxD,sxE,sxTab]))
  exact FrzF.fail ((stkF L).flatMap clC) rfl (by rw[flat_len (z:=3) (fun _=>rfl),stkF_len]) rfl rfl (fun u M'' a b c=>hK u M'' a (by unfold IsR;rw[stkF_len];exact b) c)
 have y1:decide ((i:Int)<(L.length:Int))=true:=by rw[decide_eq_true_eq];omega
 have f1:=hv.idx (P:=Try.prog) (T:=9) tk9 tz9 (by omega) hlt
 have wi:IntKind.i64.wrap ((i:Int)+1)=((i+1:Nat):Int):=by rw[wrap_id (by omega) (by omega)];omega
 have hs:=clF_app ((stkF L).take i) (L[i],[120,46,103,111],(i:Int))
 rw[←stkF_at L i hlt,←List.take_succ_eq_append_getElem (by rw[stkF_len];exact hlt)]at hs
 rw[stkF_at L i hlt]at hs
 have hs:clF ((stkF L).take i)++[.ext (.string (bs L[i])),.ext (.string (bs [120,46,103,111])),.ext (.int .i64 (i:Int))]=clF ((stkF L).take (i+1)):=hs
 refine Go1.mk ?_;repeat' ((first|(with_reducible refine Go1.go ?_)|((with_reducible refine isDraw [some 16,some 17,some 18,some 19,some 20,some 21,some 22,some 23,some 24,some 25,some 26,none] (by decide) ?_);refine draw_rule [(0,[]),(1,[]),(2,[1]),(3,[1]),(4,[1]),(5,[1]),(6,[1,5]),(7,[1]),(8,[1]),(9,[]),(10,[]),(11,[])] [[],[0],[],[],[2,3],[2,3,4],[],[2,3,4,5,6],[2,3,4,5,6,7],[0,1,2,3,4,5,6,7,8],[0,1,2,3,4,5,6,7,8,9],[0,1,2,3,4,5,6,7,8,9,10]] [16,17,18,19,20,21,22,23,24] [] (by kernel_rfl) (by kernel_rfl) (by kernel_rfl) (by kernel_rfl) (by exact trivial) ?_)|(refine And.intro ?_ ?_;(try simp only[sxO]at *);omega)|fail)<;>(try simp (maxSteps:=1000000) only [flSt,y1,f1,sbV,wi,hs,maxLen,vo,vl,vs,lX,clF_ment,clF_kill,hasK_nil,Nat.mul_one,bs_mk,bs_app,bs_ext,bs_size,bs_toList,bs_at,bs_cells,List.take_length,imp_ga,guard_pk,guard_pk2,↓hold_pre,awayP,runOps,regK,step1,newK,genR,appR,obl,buildR,Value.cells,closeK,keepH,outV,retK,ret1,retC,RetV,Option.getD,runD,stepD,afterK,undef,simprocAttr,sxB,↓sxD,sxE,sxTab]))
 exact ⟨L.length-(i+1),flSt M v m (i+1) ((stkF L).take (i+1)),by omega,le_sub ⟨rfl,rfl,rfl,rfl,trivial⟩ ⟨rfl,rfl,rfl,trivial⟩ rfl rfl rfl (keepLt_of rfl),i+1,rfl,by omega,rfl⟩
theorem fail_nil(m:Bst)(hK:K (.ext (faV [112] [116] 0 m (.slice none 0 0))) [] M):CallS Try.prog 22 [.ext (.string (bs m)),.ext (.slice none 0 0)] [] M [] K:=by
 refine inlS (cs:=[]) Try.mixed Try.func22 rfl (by kernel_rfl) 100 rfl rfl ?_
 simp only[Try.f22]
 have n1:bs [112]=⟨#[112]⟩:=rfl
 refine Go1.mk ?_;repeat' ((first|(with_reducible refine Go1.go ?_)|(refine And.intro ?_ ?_;(try simp only[sxO]at *);omega)|fail)<;>(try simp (maxSteps:=1000000) only [bs_mk,bs_app,bs_ext,bs_size,bs_toList,bs_at,bs_cells,List.take_length,imp_ga,guard_pk,guard_pk2,↓hold_pre,awayP,runOps,regK,step1,newK,genR,appR,obl,buildR,Value.cells,closeK,keepH,outV,retK,ret1,retC,RetV,Option.getD,runD,stepD,afterK,undef,simprocAttr,sxB,↓sxD,sxE,sxTab]))
 refine ⟨fun q z=>q=0∧z=fl0 M (.slice none 0 0) m,⟨0,fl0 M (.slice none 0 0) m,le_sub (z:=fl0 M (.slice none 0 0) m) ⟨rfl,rfl,rfl,rfl,trivial⟩ ⟨rfl,rfl,trivial⟩ rfl rfl rfl (keepLt_of rfl),⟨rfl,rfl⟩⟩,?_⟩
 rintro q z ⟨rfl,rfl⟩
 refine Go1.mk ?_;repeat' ((first|(with_reducible refine Go1.go ?_)|(refine And.intro ?_ ?_;(try simp only[sxO]at *);omega)|fail)<;>(try simp (maxSteps:=1000000) only [fl0,hasK_nil,bs_mk,bs_app,bs_ext,bs_size,bs_toList,bs_at,bs_cells,List.take_length,imp_ga,guard_pk,guard_pk2,↓hold_pre,awayP,runOps,regK,step1,newK,genR,appR,obl,buildR,Value.cells,closeK,keepH,outV,retK,ret1,retC,RetV,Option.getD,runD,stepD,afterK,undef,simprocAttr,sxB,↓sxD,sxE,sxTab]))
 exact hK
theorem fail_bor(m:Bst)(k n:Nat)(T:TypeId)(L:List Bst)(hn:n=L.length)(hL:L.length<1000)
  (hK:∀u M',Mem.le M M'→IsR M' 3 clC u (stkF L)→K (.ext (faV [112] [116] 0 m u)) [(k,T,cE sbV L)] M'):CallS Try.prog 22 [.ext (.string (bs m)),.slo k 0 n 1] [(k,T,cE sbV L)] M [] K:=by
 refine CallS.bor ⟨⟨_,rfl⟩,trivial⟩ fun us M' hM hb'=>?_
 obtain ⟨_,_,rfl,rfl,v1,_,rfl,hv,rfl⟩:=hb'
 exact fail_ok m v1 L (hv.isL (T:=T) (by simp[lkH]) hn) hL fun u M2 c1 c2 c3=>⟨fun j hj=>rfl,fun M3 h5 h6 _=>hK u M3 h5 (SlM.move c2 c3 h6)⟩
def msL:List Bst:=[[],[97,32,49],[97,32,50],[98],[99],[100],[101,47,102]]
def tsL:List Bst:=[[116],[117]]
def fnL:List Bst:=[[102],[103],[104],[105],[106]]
def tpH(u:Value)(p:Nat):List AV:=[.ext u,.ext (.int .i64 (p:Int))]
def fuSt(M:Mem)(u:Value)(p:Nat)(ts m:Bst)(e:Int)(c i:Nat)(X:List Stk):St:={env:=[(6,.ext (.int .i64 (c:Int))),(5,.own 105 0),(4,.own 104 0),(0,.own 40 0)],hp:=[(105,34,[.ext (.string (bs [112])),.ext (.string (bs ts)),.ext (.int .i64 e),.ext (.string (bs m)),.slo 136 0 i 3]),(136,74,clF X),(104,34,[.ext (.string (bs [])),.ext (.string (bs [])),.ext (.int .i64 0),.ext (.string (bs [])),.ext (.slice none 0 0)]),(40,38,tpH u p)],M:=M,kb:=100,fx:=[40]}
def fu0(M:Mem)(u:Value)(p:Nat)(ts m:Bst)(e:Int)(c:Nat):St:={env:=[(6,.ext (.int .i64 (c:Int))),(5,.own 105 0),(4,.own 104 0),(0,.own 40 0)],hp:=[(105,34,[.ext (.string (bs [112])),.ext (.string (bs ts)),.ext (.int .i64 e),.ext (.string (bs m)),.ext (.slice none 0 0)]),(104,34,[.ext (.string (bs [])),.ext (.string (bs [])),.ext (.int .i64 0),.ext (.string (bs [])),.ext (.slice none 0 0)]),(40,38,tpH u p)],M:=M,kb:=100,fx:=[40]}
theorem fu0_le(M:Mem)(u:Value)(p:Nat)(ts m:Bst)(e:Int)(c:Nat):Le (fu0 M u p ts m e c) (fuSt M u p ts m e c 0 []):=
 (le_nilH (s:=fu0 M u p ts m e c) 105 4 136 74 34 _ 3 rfl rfl (.inl rfl)).trans (le_sub ⟨rfl,rfl,rfl,rfl,trivial⟩ ⟨rfl,rfl,rfl,rfl,trivial⟩ rfl rfl rfl (keepLt_of rfl))
theorem failure_ok(u:Value)(l:List Int)(p least:Nat)(hu:IsL M intV64 u l)(hp:p<900000)(hl:least≤10)
  (hK:∀(f:Fa) M' p',Mem.le M M'→p'≤p+100→drF least f→faOk M' f→FreshS M f.2.2.2.2.1→K (.ext (faV f.1 f.2.1 f.2.2.1 f.2.2.2.1 f.2.2.2.2.1)) [(40,38,tpH u p')] M'):CallS Try.prog 11 [.own 40 0,.ext (.int .i64 (least:Int))] [(40,38,tpH u p)] M [] K:=by
 refine CallS.frzF ?_
 refine inlS (cs:=[]) Try.mixed Try.func11 rfl (by kernel_rfl) 100 rfl rfl ?_
 simp only[Try.f11]
 have uo:=hu.one
 have n1:[AV.ext (.string (bs [])),.ext (.string (bs [97,32,49])),.ext (.string (bs [97,32,50])),.ext (.string (bs [98])),.ext (.string (bs [99])),.ext (.string (bs [100])),.ext (.string (bs [101,47,102]))]=cE sbV msL:=rfl
 have n2:[AV.ext (.string (bs [116])),.ext (.string (bs [117]))]=cE sbV tsL:=rfl
 have n3:[AV.ext (.string (bs [102])),.ext (.string (bs [103])),.ext (.string (bs [104])),.ext (.string (bs [105])),.ext (.string (bs [106]))]=cE sbV fnL:=rfl
 refine Go1.mk ?_;repeat' ((first|(with_reducible refine Go1.go ?_)|((with_reducible refine isCall (f:=31) ?_);refine callA ?_)|((with_reducible refine isCall0 (f:=31) ?_);refine callA0 ?_)|((with_reducible refine isCallS (f:=31) ?_);refine (one_ok 40 108 (by decide) u l _ msL _ _ (by rfl) hu (by omega) (by decide) (by decide) (fun i hi=>Stop.mk ?_)))|(refine And.intro ?_ ?_;(try simp only[sxO]at *);omega)|fail)<;>(try simp (maxSteps:=1000000) only [tpH,faV,uo,n1,cE_ment,cE_kill,hasK_nil,bs_mk,bs_app,bs_ext,bs_size,bs_toList,bs_at,bs_cells,List.take_length,imp_ga,guard_pk,guard_pk2,↓hold_pre,awayP,runOps,regK,step1,newK,genR,appR,obl,buildR,Value.cells,closeK,keepH,outV,retK,ret1,retC,RetV,Option.getD,runD,stepD,afterK,undef,simprocAttr,sxB,↓sxD,sxE,sxTab]))
 have hm3:(msL[i]).length≤3:=(show ∀x∈msL,x.length≤3 by decide) _ (List.getElem_mem hi)
 generalize msL[i]=m at *
 refine Stop.go ?_
 refine Go1.mk ?_;repeat' ((first|(with_reducible refine Go1.go ?_)|(((with_reducible refine isCall (f:=22) ?_);refine callA_nil (by kernel_rfl) ?_;refine (fail_nil m ?_)))|((with_reducible refine isCall (f:=31) ?_);refine callA ?_)|((with_reducible refine isCall0 (f:=31) ?_);refine callA0 ?_)|((with_reducible refine isCallS (f:=31) ?_);refine (one_ok 40 112 (by decide) u l _ tsL _ _ (by rfl) hu (by omega) (by decide) (by decide) (fun i hi=>Stop.mk ?_)))|(refine And.intro ?_ ?_;(try simp only[sxO]at *);omega)|fail)<;>(try simp (maxSteps:=1000000) only [tpH,faV,sbV,uo,n2,cE_ment,cE_kill,hasK_nil,bs_mk,bs_app,bs_ext,bs_size,bs_toList,bs_at,bs_cells,List.take_length,imp_ga,guard_pk,guard_pk2,↓hold_pre,awayP,runOps,regK,step1,newK,genR,appR,obl,buildR,Value.cells,closeK,keepH,outV,retK,ret1,retC,RetV,Option.getD,runD,stepD,afterK,undef,simprocAttr,sxB,↓sxD,sxE,sxTab]))
 have ht1:(tsL[i]).length=1:=(show ∀x∈tsL,x.length=1 by decide) _ (List.getElem_mem _)
 generalize tsL[i]=ts at *
 refine Stop.go ?_
 refine Go1.mk ?_;repeat' ((first|(with_reducible refine Go1.go ?_)|((with_reducible refine isCall (f:=21) ?_);refine callA ?_)|((with_reducible refine isCall0 (f:=21) ?_);refine callA0 ?_)|((with_reducible refine isCallS (f:=21) ?_);refine (nextI_ok 40 u l _ _ hu (by omega) (by omega) (by omega) (fun e he0 he1=>Stop.mk ?_)))|(refine And.intro ?_ ?_;(try simp only[sxO]at *);omega)|fail)<;>(try simp (maxSteps:=1000000) only [tpH,faV,sbV,uo,n2,cE_ment,cE_kill,hasK_nil,bs_mk,bs_app,bs_ext,bs_size,bs_toList,bs_at,bs_cells,List.take_length,imp_ga,guard_pk,guard_pk2,↓hold_pre,awayP,runOps,regK,step1,newK,genR,appR,obl,buildR,Value.cells,closeK,keepH,outV,retK,ret1,retC,RetV,Option.getD,runD,stepD,afterK,undef,simprocAttr,sxB,↓sxD,sxE,sxTab]))
 refine Stop.go ?_
 refine Go1.mk ?_;repeat' ((first|(with_reducible refine Go1.go ?_)|((with_reducible refine isCall (f:=21) ?_);refine callA ?_)|((with_reducible refine isCall0 (f:=21) ?_);refine callA0 ?_)|((with_reducible refine isCallS (f:=21) ?_);refine (nextI_ok 40 u l _ _ hu (by omega) (by omega) (by omega) (fun x hx0 hx1=>Stop.mk ?_)))|(refine And.intro ?_ ?_;(try simp only[sxO]at *);omega)|fail)<;>(try simp (maxSteps:=1000000) only [tpH,faV,sbV,uo,cE_ment,cE_kill,hasK_nil,bs_mk,bs_app,bs_ext,bs_size,bs_toList,bs_at,bs_cells,List.take_length,imp_ga,guard_pk,guard_pk2,↓hold_pre,awayP,runOps,regK,step1,newK,genR,appR,obl,buildR,Value.cells,closeK,keepH,outV,retK,ret1,retC,RetV,Option.getD,runD,stepD,afterK,undef,simprocAttr,sxB,↓sxD,sxE,sxTab]))
 obtain ⟨y,rfl⟩:=Int.eq_ofNat_of_zero_le hx0
 have wy:IntKind.i64.wrap ((least:Int)+(y:Int))=((least+y:Nat):Int):=by rw[wrap_id (by omega) (by omega)];omega
 refine Stop.go ?_
 refine Go1.mk ?_;repeat' ((first|(with_reducible refine Go1.go ?_)|(refine And.intro ?_ ?_;(try simp only[sxO]at *);omega)|fail)<;>(try simp (maxSteps:=1000000) only [tpH,faV,sbV,wy,uo,cE_ment,cE_kill,hasK_nil,bs_mk,bs_app,bs_ext,bs_size,bs_toList,bs_at,bs_cells,List.take_length,imp_ga,guard_pk,guard_pk2,↓hold_pre,awayP,runOps,regK,step1,newK,genR,appR,obl,buildR,Value.cells,closeK,keepH,outV,retK,ret1,retC,RetV,Option.getD,runD,stepD,afterK,undef,simprocAttr,sxB,↓sxD,sxE,sxTab]))
 refine ⟨fun d z=>∃c p' X,d=c∧c+X.length=least+y∧p'≤p+4+2*X.length∧(∀s∈X,s.1.length=1∧s.2.1=[120,46,103,111])∧z=fuSt M u p' ts m e c X.length X,⟨least+y,fuSt M u (p+1+1+1+1) ts m e (least+y) 0 [],Le.trans (le_sub (z:=fu0 M u (p+1+1+1+1) ts m e (least+y)) ⟨rfl,rfl,rfl,rfl,trivial⟩ ⟨rfl,rfl,rfl,trivial⟩ rfl rfl rfl (keepLt_of rfl)) (fu0_le _ _ _ _ _ _ _),⟨_,_,[],rfl,rfl,by simp,(fun s hs=>by cases hs),rfl⟩⟩,?_⟩
 rintro d z ⟨c,p',X,rfl,hcX,hp',hX,rfl⟩
 have lX:=clF_len X
 by_cases hc:0<d
 case neg=>
  obtain rfl:d=0:=by omega
  have d1:decide ((0:Int)<((0:Nat):Int))=false:=by decide
  refine Go1.mk ?_;repeat' ((first|(with_reducible refine Go1.go ?_)|(refine And.intro ?_ ?_;(try simp only[sxO]at *);omega)|fail)<;>(try simp (maxSteps:=1000000) only [tpH,fuSt,d1,lX,clF_ment,clF_kill,uo,hasK_nil,bs_mk,bs_app,bs_ext,bs_size,bs_toList,bs_at,bs_cells,List.take_length,imp_ga,guard_pk,guard_pk2,↓hold_pre,awayP,runOps,regK,step1,newK,genR,appR,obl,buildR,Value.cells,closeK,keepH,outV,retK,ret1,retC,RetV,Option.getD,runD,stepD,afterK,undef,simprocAttr,sxB,↓sxD,sxE,sxTab]))
  refine FrzF.fail (X.flatMap clC) rfl (by rw[flat_len (z:=3) (fun _=>rfl)]) rfl rfl (fun v M'' a b g=>?_)
  exact hK ([112],ts,e,m,v,X) M'' p' a (by omega) ⟨rfl,ht1,he0,by show e≤1;omega,by show least≤X.length;omega,by show X.length≤least+3;omega,hX⟩ ⟨b,by show X.length<_;omega,by show m.length<_;omega,fun c hc=>by
   obtain ⟨a1,a2⟩:=hX c hc
   exact ⟨by omega,by rw[a2];decide⟩⟩ g
 have d1:decide ((0:Int)<(d:Int))=true:=by simp;omega
 have wd:IntKind.i64.wrap ((d:Int)-1)=((d-1:Nat):Int):=by rw[wrap_id (by omega) (by omega)];omega
 refine Go1.mk ?_;repeat' ((first|(with_reducible refine Go1.go ?_)|((with_reducible refine isCall (f:=31) ?_);refine callA ?_)|((with_reducible refine isCall0 (f:=31) ?_);refine callA0 ?_)|((with_reducible refine isCallS (f:=31) ?_);refine (one_ok 40 130 (by decide) u l _ fnL _ _ (by rfl) hu (by omega) (by decide) (by decide) (fun i hi=>Stop.mk ?_)))|((with_reducible refine isDraw [some 27,some 28,some 29,some 30,some 31,some 32,some 33,some 34,some 35,some 36,some 37,none] (by decide) ?_);refine draw_rule [(0,[]),(1,[]),(2,[1]),(3,[1]),(5,[1]),(4,[1]),(6,[1]),(7,[1]),(8,[1]),(9,[]),(10,[]),(11,[])] [[],[0],[],[],[2,3],[],[2,3,4,5],[2,3,4,5,6],[2,3,4,5,6,7],[0,1,2,3,4,5,6,7,8],[0,1,2,3,4,5,6,7,8,9],[0,1,2,3,4,5,6,7,8,9,10]] [27,28,29,30,31,32,33,34,35] [] (by kernel_rfl) (by kernel_rfl) (by kernel_rfl) (by kernel_rfl) (by exact trivial) ?_)|(refine And.intro ?_ ?_;(try simp only[sxO]at *);omega)|fail)<;>(try simp (maxSteps:=1000000) only [tpH,fuSt,d1,n3,lX,clF_ment,clF_kill,cE_ment,cE_kill,uo,hasK_nil,bs_mk,bs_app,bs_ext,bs_size,bs_toList,bs_at,bs_cells,List.take_length,imp_ga,guard_pk,guard_pk2,↓hold_pre,awayP,runOps,regK,step1,newK,genR,appR,obl,buildR,Value.cells,closeK,keepH,outV,retK,ret1,retC,RetV,Option.getD,runD,stepD,afterK,undef,simprocAttr,sxB,↓sxD,sxE,sxTab]))
 have hf1:(fnL[i]).length=1:=(show ∀x∈fnL,x.length=1 by decide) _ (List.getElem_mem _)
 generalize fnL[i]=fn at *
 refine Stop.go ?_
 refine Go1.mk ?_;repeat' ((first|(with_reducible refine Go1.go ?_)|((with_reducible refine isCall (f:=21) ?_);refine callA ?_)|((with_reducible refine isCall0 (f:=21) ?_);refine callA0 ?_)|((with_reducible refine isCallS (f:=21) ?_);refine (nextI_ok 40 u l _ _ hu (by omega) (by omega) (by omega) (fun q hq0 hq1=>Stop.mk ?_)))|(refine And.intro ?_ ?_;(try simp only[sxO]at *);omega)|fail)<;>(try simp (maxSteps:=1000000) only [tpH,fuSt,sbV,d1,n3,lX,clF_ment,clF_kill,cE_ment,cE_kill,uo,hasK_nil,bs_mk,bs_app,bs_ext,bs_size,bs_toList,bs_at,bs_cells,List.take_length,imp_ga,guard_pk,guard_pk2,↓hold_pre,awayP,runOps,regK,step1,newK,genR,appR,obl,buildR,Value.cells,closeK,keepH,outV,retK,ret1,retC,RetV,Option.getD,runD,stepD,afterK,undef,simprocAttr,sxB,↓sxD,sxE,sxTab]))
 have hs:=clF_app X (fn,[120,46,103,111],q)
 have hs:clF X++[.ext (.string (bs fn)),.ext (.string (bs [120,46,103,111])),.ext (.int .i64 q)]=clF (X++[(fn,[120,46,103,111],q)]):=hs
 refine Stop.go ?_
 refine Go1.mk ?_;repeat' ((first|(with_reducible refine Go1.go ?_)|(refine And.intro ?_ ?_;(try simp only[sxO]at *);omega)|fail)<;>(try simp (maxSteps:=1000000) only [tpH,fuSt,sbV,d1,wd,hs,maxLen,lX,clF_ment,clF_kill,cE_ment,cE_kill,uo,Nat.mul_one,hasK_nil,bs_mk,bs_app,bs_ext,bs_size,bs_toList,bs_at,bs_cells,List.take_length,imp_ga,guard_pk,guard_pk2,↓hold_pre,awayP,runOps,regK,step1,newK,genR,appR,obl,buildR,Value.cells,closeK,keepH,outV,retK,ret1,retC,RetV,Option.getD,runD,stepD,afterK,undef,simprocAttr,sxB,↓sxD,sxE,sxTab]))
 exact ⟨d-1,fuSt M u (p'+1+1) ts m e (d-1) (X++[(fn,[120,46,103,111],q)]).length (X++[(fn,[120,46,103,111],q)]),by omega,le_sub ⟨rfl,rfl,rfl,rfl,trivial⟩ ⟨by simp[lkH,fuSt],by simp[lkH,fuSt],rfl,rfl,trivial⟩ rfl rfl rfl (keepLt_of rfl),d-1,p'+1+1,_,rfl,by rw[List.length_append,List.length_singleton];omega,by rw[List.length_append,List.length_singleton];omega,(fun s hs=>by
  rcases List.mem_append.1 hs with hs|hs
  ·exact hX s hs
  ·rw[List.mem_singleton.1 hs];exact ⟨hf1,rfl⟩),rfl⟩
def fsSt(M:Mem)(u:Value)(p least c n:Nat)(X:List Fa):St:={env:=[(8,.ext (.int .i64 (c:Int))),(7,.slo 122 0 n 5),(2,.ext (.int .i64 (least:Int))),(0,.own 40 0)],hp:=[(122,34,faF X),(40,38,tpH u p)],M:=M,kb:=100,fx:=[40]}
theorem failuresO_ok(u:Value)(l:List Int)(p most least:Nat)(hu:IsL M intV64 u l)(hp:p<10000)(hm:most<1000)(hl:least≤10)
  (hK:∀n (X:List Fa) M' p',Mem.le M M'→n=X.length→X.length≤most→p'≤p+1+100*most→(∀f∈X,drF least f∧faOk M' f)→K (.slo 122 0 n 5) [(122,34,faF X),(40,38,tpH u p')] M'):CallS Try.prog 15 [.own 40 0,.ext (.int .i64 (most:Int)),.ext (.int .i64 (least:Int))] [(40,38,tpH u p)] M [] K:=by
 refine inlS (cs:=[]) Try.mixed Try.func15 rfl (by kernel_rfl) 100 rfl rfl ?_
 simp only[Try.f15]
 have uo:=hu.one
 have wm:IntKind.i64.wrap ((most:Int)+1)=((most+1:Nat):Int):=by rw[wrap_id (by omega) (by omega)];omega
 refine Go1.mk ?_;repeat' ((first|(with_reducible refine Go1.go ?_)|((with_reducible refine isCall (f:=21) ?_);refine callA ?_)|((with_reducible refine isCallS (f:=21) ?_);refine (nextI_ok 40 u l _ _ hu (by omega) (by omega) (by omega) (fun x hx0 hx1=>Stop.mk ?_)))|(refine And.intro ?_ ?_;(try simp only[sxO]at *);omega)|fail)<;>(try simp (maxSteps:=1000000) only [tpH,uo,wm,hasK_nil,↓hold_pre,awayP,runOps,regK,step1,newK,genR,appR,obl,buildR,Value.cells,closeK,keepH,outV,retK,ret1,retC,RetV,Option.getD,runD,stepD,afterK,undef,simprocAttr,sxB,↓sxD,sxE,sxTab]))
 obtain ⟨y,rfl⟩:=Int.eq_ofNat_of_zero_le hx0
 refine Stop.go ?_
 refine Go1.mk ?_;repeat' ((first|(with_reducible refine Go1.go ?_)|(refine And.intro ?_ ?_;(try simp only[sxO]at *);omega)|fail)<;>(try simp (maxSteps:=1000000) only [tpH,uo,wm,hasK_nil,↓hold_pre,awayP,runOps,regK,step1,newK,genR,appR,obl,buildR,Value.cells,closeK,keepH,outV,retK,ret1,retC,RetV,Option.getD,runD,stepD,afterK,undef,simprocAttr,sxB,↓sxD,sxE,sxTab]))
 refine ⟨fun d z=>∃M' c p' X,d=c∧c+X.length=y∧p'≤p+1+100*X.length∧Mem.le M M'∧(∀f∈X,drF least f∧faOk M' f)∧z=fsSt M' u p' least c X.length X,⟨y,fsSt M u (p+1) least y 0 [],(le_nil 7 122 34 5 rfl (.inl rfl)).trans (le_sub ⟨rfl,rfl,rfl,rfl,trivial⟩ ⟨rfl,rfl,trivial⟩ rfl rfl rfl (keepLt_of rfl)),⟨M,_,_,[],rfl,rfl,by simp,Mem.le.refl _,(fun s hs=>by cases hs),rfl⟩⟩,?_⟩
 rintro d z ⟨M1,c,p',X,rfl,hcX,hp',m1,hX,rfl⟩
 have lX:=faF_len X
 by_cases hc:0<d
 case neg=>
  obtain rfl:d=0:=by omega
  have d1:decide ((0:Int)<((0:Nat):Int))=false:=by decide
  refine Go1.mk ?_;repeat' ((first|(with_reducible refine Go1.go ?_)|(refine And.intro ?_ ?_;(try simp only[sxO]at *);omega)|fail)<;>(try simp (maxSteps:=1000000) only [tpH,fsSt,d1,lX,faF_ment,faF_kill,uo,hasK_nil,↓hold_pre,awayP,runOps,regK,step1,newK,genR,appR,obl,buildR,Value.cells,closeK,keepH,outV,retK,ret1,retC,RetV,Option.getD,runD,stepD,afterK,undef,simprocAttr,sxB,↓sxD,sxE,sxTab]))
  exact hK X.length X M1 p' m1 rfl (by omega) (by omega) hX
 have d1:decide ((0:Int)<(d:Int))=true:=by simp;omega
 have wd:IntKind.i64.wrap ((d:Int)-1)=((d-1:Nat):Int):=by rw[wrap_id (by omega) (by omega)];omega
 refine Go1.mk ?_;repeat' ((first|(with_reducible refine Go1.go ?_)|((with_reducible refine isCall (f:=11) ?_);refine callA ?_)|((with_reducible refine isCallS (f:=11) ?_);refine (failure_ok u l p' least (hu.le m1) (by omega) hl (fun f M2 p2 m2 hp2 hd hf _=>Stop.mk ?_)))|(refine And.intro ?_ ?_;(try simp only[sxO]at *);omega)|fail)<;>(try simp (maxSteps:=1000000) only [tpH,fsSt,d1,lX,faF_ment,faF_kill,uo,hasK_nil,↓hold_pre,awayP,runOps,regK,step1,newK,genR,appR,obl,buildR,Value.cells,closeK,keepH,outV,retK,ret1,retC,RetV,Option.getD,runD,stepD,afterK,undef,simprocAttr,sxB,↓sxD,sxE,sxTab]))
 have m2:Mem.le M1 M2:=m2
 obtain ⟨pk,ts,e,m,v,C⟩:=f
 have vo:v.oneCell'=true:=hf.1.one
 have hs:=faF_app X pk ts e m v C
 refine Stop.go ?_
 refine Go1.mk ?_;repeat' ((first|(with_reducible refine Go1.go ?_)|(refine And.intro ?_ ?_;(try simp only[sxO]at *);omega)|fail)<;>(try simp (maxSteps:=1000000) only [tpH,fsSt,faV,d1,wd,vo,hs,maxLen,lX,faF_ment,faF_kill,uo,Nat.mul_one,hasK_nil,↓hold_pre,awayP,runOps,regK,step1,newK,genR,appR,obl,buildR,Value.cells,closeK,keepH,outV,retK,ret1,retC,RetV,Option.getD,runD,stepD,afterK,undef,simprocAttr,sxB,↓sxD,sxE,sxTab]))
 exact ⟨d-1,fsSt M2 u p2 least (d-1) (X++[(pk,ts,e,m,v,C)]).length (X++[(pk,ts,e,m,v,C)]),by omega,le_sub ⟨rfl,by simp[lk,fsSt],rfl,rfl,trivial⟩ ⟨by simp[lkH,fsSt],rfl,trivial⟩ rfl rfl rfl (keepLt_of rfl),M2,d-1,p2,_,rfl,by rw[List.length_append,List.length_singleton];omega,by rw[List.length_append,List.length_singleton];omega,m1.trans m2,(fun s hs=>by
  rcases List.mem_append.1 hs with hs|hs
  ·obtain ⟨a,b1,b2,b3,b4⟩:=hX s hs
   exact ⟨a,b1.le m2,b2,b3,b4⟩
  ·rw[List.mem_singleton.1 hs];exact ⟨hd,hf⟩),rfl⟩
theorem failures_ok(u:Value)(l:List Int)(p most least:Nat)(hu:IsL M intV64 u l)(hp:p<10000)(hm:most<1000)(hl:least≤10)
  (hK:∀v (X:List Fa) M' p',Mem.le M M'→IsR M' 5 faC v X→X.length≤most→p'≤p+1+100*most→(∀f∈X,drF least f∧faOk M' f)→K (.ext v) [(40,38,tpH u p')] M'):CallS Try.prog 15 [.own 40 0,.ext (.int .i64 (most:Int)),.ext (.int .i64 (least:Int))] [(40,38,tpH u p)] M [] K:=by
 refine CallS.frzF (failuresO_ok u l p most least hu hp hm hl fun n X M1 p1 m1 hn hX hp1 hf=>?_)
 exact .inr ⟨none,[],[],122,n,5,_,X.flatMap faC,_,rfl,rfl,rfl,rfl,by rw[flat_len (z:=5) (fun _=>rfl),hn],rfl,fun v M2 a b c=>hK v X M2 p1 (m1.trans a) (by unfold IsR;rw[←hn];exact b) hX hp1 (fun f hf'=>⟨(hf f hf').1,(hf f hf').2.1.le a,(hf f hf').2.2⟩)⟩
end
theorem GRF.move{M' M'' M3:Mem}{U:Value}{O:List GO}(h:GRF M' M'' U O)(h3:∀b,M' b=none→M3 b=M'' b):GRV M3 U O:=by
 obtain ⟨L,h1,h2,h4,h5⟩:=h
 exact ⟨L,SlM.move h1 h2 h3,fun g hg=>⟨(h4 g hg).1.1.move (h4 g hg).2.1 h3,(h4 g hg).1.2.move (h4 g hg).2.2 h3⟩,h5⟩
theorem isPt_add{v:Value}(o:Nat)(h:isPt v=true):isPt (addP v o)=true:=by
 unfold isPt at h
 split at h
 ·rfl
 ·cases h
theorem addP_addP{v:Value}(a b:Nat)(h:isPt v=true):addP (addP v a) b=addP v (a+b):=by
 unfold isPt at h
 split at h
 ·by_cases ha:a=0<;>by_cases hb:b=0<;>simp[addP,Addr.add,ha,hb,Nat.add_assoc]
 ·cases h
def kn1(v:Value):Fa:=([112],[116],0,[97,32,49],v,stkF [[102],[103]])
def kn2(v:Value):Fa:=([112],[116],0,[98],v,stkF [[102],[103]])
def kn3(v:Value):Fa:=([112],[116],0,[98],v,stkF [])
def knC:List Bst:=[[102,64,120,46,103,111],[103,64,120,46,103,111]]
def knT:List (Bst×List Bst):=[([97,32,35],knC),([98],knC),([98],[])]
theorem kn_T(a b c:Value):[kn1 a,kn2 b,kn3 c].map faB=knT:=by
 show [faB (kn1 (.bool true)),faB (kn2 (.bool true)),faB (kn3 (.bool true))]=knT
 decide +kernel
theorem kn_E2(a b c:Value):sgnE [kn1 a,kn2 b,kn3 c] 2=0:=by
 show sgnE [kn1 (.bool true),kn2 (.bool true),kn3 (.bool true)] 2=0
 decide +kernel
theorem kn_E3(a b c:Value):sgnE [kn1 a,kn2 b,kn3 c] 3=0:=by
 show sgnE [kn1 (.bool true),kn2 (.bool true),kn3 (.bool true)] 3=0
 decide +kernel
theorem lnk_iff{T:List (Bst×List Bst)}{d:Int}{i k:Nat}:lnkR T d i k↔lkB (sgK T d i) (sgK T d k)=true:=lkB_iff.symm
theorem kn_l2:Lab 3 (lnkR knT 2) fun _=>0:=by
 have h01:lnkR knT 2 0 1:=lnk_iff.2 (by decide +kernel)
 have h12:lnkR knT 2 1 2:=lnk_iff.2 (by decide +kernel)
 have c0:∀i,i<3→Conn (lnkR knT 2) 3 0 i:=fun i hi=>by
  match i,hi with
  | 0,_=>exact .refl (by decide)
  | 1,_=>exact .one (by decide) (by decide) h01
  | 2,_=>exact (Conn.one (by decide) (by decide) h01).trans (.one (by decide) (by decide) h12)
 exact ⟨fun i _=>Nat.zero_le _,fun _ _=>rfl,fun _ _ _ _ _=>rfl,fun i k hi hk _=>((c0 i hi).symm lnkR_symm).trans (c0 k hk)⟩
theorem kn_l3:Lab 3 (lnkR knT 3) fun i=>if i=0 then 0 else 1:=by
 have h12:lnkR knT 3 1 2:=lnk_iff.2 (by decide +kernel)
 have n01:¬lnkR knT 3 0 1:=fun h=>absurd (lnk_iff.1 h) (by decide +kernel)
 have n02:¬lnkR knT 3 0 2:=fun h=>absurd (lnk_iff.1 h) (by decide +kernel)
 refine ⟨fun i hi=>by split<;>omega,fun i hi=>by split<;>simp,fun i k hi hk hR=>?_,fun i k hi hk e=>?_⟩
 ·match i,k,hi,hk with
  | 0,0,_,_=>rfl
  | 0,1,_,_=>exact absurd hR n01
  | 0,2,_,_=>exact absurd hR n02
  | 1,0,_,_=>exact absurd (lnkR_symm _ _ hR) n01
  | 2,0,_,_=>exact absurd (lnkR_symm _ _ hR) n02
  | 1,1,_,_=>rfl
  | 1,2,_,_=>rfl
  | 2,1,_,_=>rfl
  | 2,2,_,_=>rfl
 ·match i,k,hi,hk,e with
  | 0,0,_,_,_=>exact .refl (by decide)
  | 1,1,_,_,_=>exact .refl (by decide)
  | 2,2,_,_,_=>exact .refl (by decide)
  | 1,2,_,_,_=>exact .one (by decide) (by decide) h12
  | 2,1,_,_,_=>exact .one (by decide) (by decide) (lnkR_symm _ _ h12)
def knO2:List GO:=[(([97,32,35],knC),[0,1,2])]
def knO3:List GO:=[(([97,32,35],knC),[0]),(([98],[]),[1,2])]
theorem kn_g2:GrpO knT 2 knO2:=⟨_,kn_l2,by decide +kernel⟩
theorem kn_g3:GrpO knT 3 knO3:=⟨_,kn_l3,by decide +kernel⟩
theorem knO3_ok:okO knO3:=⟨by decide,fun o ho=>by
 have:okB o.1.1 o.1.2∧o.2.length≤64∧o.1.2.length<1000000:=by
  rcases List.mem_cons.1 ho with rfl|ho
  ·exact ⟨⟨by decide,by decide,by decide⟩,by decide,by decide⟩
  ·rw[List.mem_singleton.1 ho];exact ⟨⟨by decide,by decide,by decide⟩,by decide,by decide⟩
 exact this⟩
section
variable {M:Mem}{K:AV→Hp→Mem→Prop}
theorem gsplit_bor(k n:Nat)(T:TypeId)(L:List Fa)(d:Int)(hn:n=L.length)(ho:∀f∈L,faOk M f)(hb:L.length<1000000)
  (hK1:sgnE L d≠0→∀M',Mem.le M M'→K (.ext (.tuple #[.slice none 0 0,.int .i64 (sgnE L d)])) [(k,T,faF L)] M')
  (hK2:sgnE L d=0→∀u' M' O,Mem.le M M'→GrpO (L.map faB) d O→GRV M' u' O→K (.ext (.tuple #[u',.int .i64 0])) [(k,T,faF L)] M') :
  CallS Try.prog 16 [.slo k 0 n 5,.ext (.int .i64 d)] [(k,T,faF L)] M [] K:=by
 refine CallS.bor ⟨⟨_,rfl⟩,trivial⟩ fun us M' hM hb'=>?_
 obtain ⟨v1,_,rfl,hv,_,_,rfl,rfl,rfl⟩:=hb'
 have g1:IsR M' 5 faC v1 L:=by
  have h:=hv T (L.flatMap faC) (by simp[lkH,faF]) (by rw[flat_len (z:=5) (fun _=>rfl)];omega)
  rw[List.drop_zero,List.take_of_length_le (by rw[flat_len (z:=5) (fun _=>rfl)];omega)]at h
  unfold IsR
  rw[←hn];exact h
 refine gsplit_ok v1 L d g1 (fun f hf=>⟨(ho f hf).1.le hM,(ho f hf).2⟩) hb (fun he M2 c1=>⟨fun j hj=>rfl,fun M3 h5 h6 _=>hK1 he M3 h5⟩) (fun he u' M2 O c1 c2 c3=>⟨fun j hj=>rfl,fun M3 h5 h6 _=>hK2 he u' M3 O h5 c2 (c3.move h6)⟩)
theorem known27_ok(hK:∀M',Mem.le M M'→K (.ext (.bool true)) [] M'):CallS Try.prog 9 [] [] M [] K:=by
 refine inlS (cs:=[]) Try.mixed Try.func9 rfl (by kernel_rfl) 0 rfl rfl ?_
 simp only[Try.f9]
 have n1:[AV.ext (.string (bs [102])),.ext (.string (bs [103]))]=cE sbV [[102],[103]]:=rfl
 refine Go1.mk ?_;repeat' ((first|(with_reducible refine Go1.go ?_)|((with_reducible refine isCall (f:=22) ?_);refine callA ?_)|((with_reducible refine isCallS (f:=22) ?_);refine (fail_bor [97,32,49] 6 2 _ [[102],[103]] rfl (by decide) (fun v1 M1 m1 g1=>Stop.mk ?_)))|(refine And.intro ?_ ?_;(try simp only[sxO]at *);omega)|fail)<;>(try simp (maxSteps:=1000000) only [n1,cE_ment,cE_kill,hasK_nil,bs_mk,bs_app,bs_ext,bs_size,bs_toList,bs_at,bs_cells,List.take_length,imp_ga,guard_pk,guard_pk2,↓hold_pre,awayP,runOps,regK,step1,newK,genR,appR,obl,buildR,Value.cells,closeK,keepH,outV,retK,ret1,retC,RetV,Option.getD,runD,stepD,afterK,undef,simprocAttr,sxB,↓sxD,sxE,sxTab]))
 have m1:Mem.le M M1:=m1
 have o1:=g1.one
 refine Stop.go ?_
 refine Go1.mk ?_;repeat' ((first|(with_reducible refine Go1.go ?_)|((with_reducible refine isCall (f:=22) ?_);refine callA ?_)|((with_reducible refine isCallS (f:=22) ?_);refine (fail_bor [98] 8 2 _ [[102],[103]] rfl (by decide) (fun v2 M2 m2 g2=>Stop.mk ?_)))|(refine And.intro ?_ ?_;(try simp only[sxO]at *);omega)|fail)<;>(try simp (maxSteps:=1000000) only [n1,faV,o1,cE_ment,cE_kill,hasK_nil,bs_mk,bs_app,bs_ext,bs_size,bs_toList,bs_at,bs_cells,List.take_length,imp_ga,guard_pk,guard_pk2,↓hold_pre,awayP,runOps,regK,step1,newK,genR,appR,obl,buildR,Value.cells,closeK,keepH,outV,retK,ret1,retC,RetV,Option.getD,runD,stepD,afterK,undef,simprocAttr,sxB,↓sxD,sxE,sxTab]))
 have m2:Mem.le M1 M2:=m2
 have o2:=g2.one
 refine Stop.go ?_
 refine Go1.mk ?_;repeat' ((first|(with_reducible refine Go1.go ?_)|(((with_reducible refine isCall (f:=22) ?_);refine callA_nil (by kernel_rfl) ?_;refine (fail_ok [98] (.slice none 0 0) [] (isL_nil _ _ _) (by decide) (fun v3 M3 m3 g3 _=>Stop.mk ?_))))|(refine And.intro ?_ ?_;(try simp only[sxO]at *);omega)|fail)<;>(try simp (maxSteps:=1000000) only [n1,faV,o1,o2,cE_ment,cE_kill,hasK_nil,bs_mk,bs_app,bs_ext,bs_size,bs_toList,bs_at,bs_cells,List.take_length,imp_ga,guard_pk,guard_pk2,↓hold_pre,awayP,runOps,regK,step1,newK,genR,appR,obl,buildR,Value.cells,closeK,keepH,outV,retK,ret1,retC,RetV,Option.getD,runD,stepD,afterK,undef,simprocAttr,sxB,↓sxD,sxE,sxTab]))
 have m3:Mem.le M2 M3:=m3
 have o3:=g3.one
 have n4:faF [kn1 v1,kn2 v2,kn3 v3]=[AV.ext (.string (bs [112])),.ext (.string (bs [116])),.ext (.int .i64 0),.ext (.string (bs [97,32,49])),.ext v1,.ext (.string (bs [112])),.ext (.string (bs [116])),.ext (.int .i64 0),.ext (.string (bs [98])),.ext v2,.ext (.string (bs [112])),.ext (.string (bs [116])),.ext (.int .i64 0),.ext (.string (bs [98])),.ext v3]:=rfl
 have ho:∀f∈[kn1 v1,kn2 v2,kn3 v3],faOk M3 f:=by
  have hc:∀L:List Bst,L=[[102],[103]]∨L=[]→∀c∈stkF L,clOk c:=by
   rintro L (rfl|rfl)
   ·intro c hc
    have h:∀c∈stkF [[102],[103]],c.1.length≤140737488351232∧c.2.1.length≤140737488351232:=by decide
    exact h c hc
   ·intro c hc;cases hc
  intro f hf
  rcases List.mem_cons.1 hf with rfl|hf
  ·exact ⟨(g1.le m2).le m3,by show (stkF [[102],[103]]).length<_;decide,by show ([97,32,49]:Bst).length<_;decide,hc _ (.inl rfl)⟩
  rcases List.mem_cons.1 hf with rfl|hf
  ·exact ⟨g2.le m3,by show (stkF [[102],[103]]).length<_;decide,by show ([98]:Bst).length<_;decide,hc _ (.inl rfl)⟩
  ·rw[List.mem_singleton.1 hf]
   exact ⟨g3,by show (stkF []).length<_;decide,by show ([98]:Bst).length<_;decide,hc _ (.inr rfl)⟩
 have e2:=kn_E2 v1 v2 v3
 have e3:=kn_E3 v1 v2 v3
 have eT:=kn_T v1 v2 v3
 refine Stop.go ?_
 refine Go1.mk ?_;repeat' ((first|(with_reducible refine Go1.go ?_)|((with_reducible refine isCall (f:=16) ?_);refine callA ?_)|((with_reducible refine isCallS (f:=16) ?_);refine (gsplit_bor 11 3 _ [kn1 v1,kn2 v2,kn3 v3] 2 rfl ho (by simp) (fun h=>absurd e2 h) (fun _ x2 M4 O2 m4 hO2 gO2=>Stop.mk ?_)))|(refine And.intro ?_ ?_;(try simp only[sxO]at *);omega)|fail)<;>(try simp (maxSteps:=1000000) only [n1,faV,o1,o2,o3,←n4,faF_ment,faF_kill,cE_ment,cE_kill,hasK_nil,bs_mk,bs_app,bs_ext,bs_size,bs_toList,bs_at,bs_cells,List.take_length,imp_ga,guard_pk,guard_pk2,↓hold_pre,awayP,runOps,regK,step1,newK,genR,appR,obl,buildR,Value.cells,closeK,keepH,outV,retK,ret1,retC,RetV,Option.getD,runD,stepD,afterK,undef,simprocAttr,sxB,↓sxD,sxE,sxTab]))
 have m4:Mem.le M3 M4:=m4
 rw[eT]at hO2
 obtain rfl:=hO2.uniq kn_g2
 refine Stop.go ?_
 obtain ⟨L2,b1,b2,b3⟩:=gO2
 have p1:=b1.one
 refine Go1.mk ?_;repeat' ((first|(with_reducible refine Go1.go ?_)|((with_reducible refine isCall (f:=16) ?_);refine callA ?_)|((with_reducible refine isCallS (f:=16) ?_);refine (gsplit_bor 11 3 _ [kn1 v1,kn2 v2,kn3 v3] 3 rfl (fun f hf=>⟨(ho f hf).1.le m4,(ho f hf).2⟩) (by simp) (fun h=>absurd e3 h) (fun _ x3 M5 O3 m5 hO3 gO3=>Stop.mk ?_)))|(refine And.intro ?_ ?_;(try simp only[sxO]at *);omega)|fail)<;>(try simp (maxSteps:=1000000) only [o1,o2,o3,p1,faF_ment,cE_ment,cE_kill,hasK_nil,bs_mk,bs_app,bs_ext,bs_size,bs_toList,bs_at,bs_cells,List.take_length,imp_ga,guard_pk,guard_pk2,↓hold_pre,awayP,runOps,regK,step1,newK,genR,appR,obl,buildR,Value.cells,closeK,keepH,outV,retK,ret1,retC,RetV,Option.getD,runD,stepD,afterK,undef,simprocAttr,sxB,↓sxD,sxE,sxTab]))
 have m5:Mem.le M4 M5:=m5
 rw[eT]at hO3
 obtain rfl:=hO3.uniq kn_g3
 have b1:=b1.le m5
 have hl2:L2.length=1:=by have:=congrArg List.length b3;simpa [knO2] using this
 have hz:0<L2.length:=by omega
 have p2:=b1.len
 have p3:=b1.sl
 have p4:=b1.nn hz
 have p5:=b1.pt hz
 rw[hl2]at p2
 have p8:=isPt_add 0 p5
 have p9:addP (addP (elemP x2 3 0) 0) 0=addP (elemP x2 3 0) 0:=addP_addP 0 0 p5
 have p6:lookM Try.prog 25 M5 (addP (elemP x2 3 0) 2)=some L2[0].u:=b1.atF (P:=Try.prog) (T:=25) (fun _=>rfl) tk25 tz25 hz (o:=2) (v:=L2[0].u) rfl
 have p7:lookM Try.prog 9 M5 (addP (elemP x2 3 0) 0)=some (.string (bs L2[0].m)):=b1.atF (P:=Try.prog) (T:=9) (fun _=>rfl) tk9 tz9 hz (o:=0) (v:=.string (bs L2[0].m)) rfl
 have hg:L2[0].o=(([97,32,35],knC),[0,1,2]):=by
  have h:(L2.map GX.o)[0]? = knO2[0]?:=by rw[b3]
  rw[List.getElem?_map,List.getElem?_eq_getElem hz]at h
  exact Option.some.inj h
 have hgl:L2[0].l=[0,1,2]:=congrArg Prod.snd hg
 have hgm:L2[0].m=[97,32,35]:=congrArg (fun x=>x.1.1) hg
 have q1:=(b2 _ (List.getElem_mem hz)).2.le m5
 have q2:=q1.one
 have q3:=q1.len
 have q4:=q1.sl
 rw[hgl]at q3
 rw[hgm]at p7
 have q3:slen L2[0].u=3:=q3
 clear hg hgl hgm
 generalize L2[0].u=gu at *
 have c1:x3.oneCell'=true:=by obtain ⟨_,h,_⟩:=gO3;exact h.one
 have hl3:slen x3=2∧isSl x3=true:=by
  obtain ⟨L3,h1,_,h3⟩:=gO3
  refine ⟨?_,h1.sl⟩
  rw[h1.len]
  have:=congrArg List.length h3;simpa [knO3] using this
 obtain ⟨c2,c3⟩:=hl3
 have elr:lrgO knO3=1:=by decide +kernel
 refine Stop.go ?_
 refine Go1.mk ?_;repeat' ((first|(with_reducible refine Go1.go ?_)|(((with_reducible refine isCall (f:=26) ?_);refine callA_nil (by kernel_rfl) ?_;refine (plargest_ok x3 knO3 gO3 knO3_ok (Stop.mk ?_))))|(refine And.intro ?_ ?_;(try simp only[sxO]at *);omega)|fail)<;>(try simp (maxSteps:=1000000) only [o1,o2,o3,p1,p2,p3,p4,p5,p6,p7,p8,p9,q2,q3,q4,c1,c2,c3,faF_ment,cE_ment,cE_kill,hasK_nil,bs_mk,bs_app,bs_ext,bs_size,bs_toList,bs_at,bs_cells,List.take_length,imp_ga,guard_pk,guard_pk2,↓hold_pre,awayP,runOps,regK,step1,newK,genR,appR,obl,buildR,Value.cells,closeK,keepH,outV,retK,ret1,retC,RetV,Option.getD,runD,stepD,afterK,undef,simprocAttr,sxB,↓sxD,sxE,sxTab]))
 rw[elr]
 refine Stop.go ?_
 refine Go1.mk ?_;repeat' ((first|(with_reducible refine Go1.go ?_)|(refine And.intro ?_ ?_;(try simp only[sxO]at *);omega)|fail)<;>(try simp (maxSteps:=1000000) only [hasK_nil,bs_mk,bs_app,bs_ext,bs_size,bs_toList,bs_at,bs_cells,List.take_length,imp_ga,guard_pk,guard_pk2,↓hold_pre,awayP,runOps,regK,step1,newK,genR,appR,obl,buildR,Value.cells,closeK,keepH,outV,retK,ret1,retC,RetV,Option.getD,runD,stepD,afterK,undef,simprocAttr,sxB,↓sxD,sxE,sxTab]))
 exact hK M5 (m1.trans (m2.trans (m3.trans (m4.trans m5))))
end
section
variable {M:Mem}{K:AV→Hp→Mem→Prop}
end
structure AnsG (L:List Fa) (d:Int) (O:List GO):Prop where
 ok:sgnE L d=0→GrpO (L.map faB) d O
 no:sgnE L d≠0→O=[]
theorem AnsG.uniq{L:List Fa}{d:Int}{O O':List GO}(h:AnsG L d O)(h':AnsG L d O'):O=O':=by
 by_cases he:sgnE L d=0
 ·exact (h.ok he).uniq (h'.ok he)
 ·rw[h.no he,h'.no he]
theorem sgnE_64{L:List Fa}{d:Int}(he:sgnE L d=0):L.length≤64:=by
 unfold sgnE at he
 split at he
 ·cases he
 ·split at he
  ·cases he
  ·split at he
   ·cases he
   ·omega
theorem GRV.nil(M:Mem):GRV M (.slice none 0 0) []:=⟨[],slM_nil _ _ _,(fun g hg=>by cases hg),rfl⟩
theorem faOk.le{M M':Mem}{f:Fa}(h:faOk M f)(hM:Mem.le M M'):faOk M' f:=⟨h.1.le hM,h.2⟩
section
variable {M:Mem}{K:AV→Hp→Mem→Prop}
end
theorem Cmp.le{α:Type}{c:α→α→Int}(h:Cmp c){a b d:α}(h1:c a b≤0)(h2:c b d≤0):c a d≤0:=by
 by_cases e1:c a b=0
 ·rw[(h.zero a b).1 e1];exact h2
 ·by_cases e2:c b d=0
  ·rw[←(h.zero b d).1 e2];exact h1
  ·have:=h.trans a b d (by omega) (by omega);omega
section
variable {T:List (Bst×List Bst)}{f:Nat→Nat}{n r i j k:Nat}
theorem memU_pw:(memU f n r).Pairwise (· < ·):=List.Pairwise.filter _ List.pairwise_lt_range
theorem memU_root(hr:r<n)(hf:f r=r)(hle:∀j,j<n→f j≤j):∃t,memU f n r=r :: t:=by
 have hm:r∈memU f n r:=memU_in.2 ⟨hr,hf⟩
 have hp:=memU_pw (f:=f) (n:=n) (r:=r)
 have hall:∀j∈memU f n r,r≤j:=fun j hj=>by
  obtain ⟨h1,h2⟩:=memU_in.1 hj
  have:=hle j h1;omega
 cases h:memU f n r with
 | nil=>rw[h]at hm;cases hm
 | cons a t=>
  rw[h]at hm hp hall
  rcases List.mem_cons.1 hm with e|e
  ·exact ⟨t,by rw[e]⟩
  ·have h1:=(List.pairwise_cons.1 hp).1 r e
   have h2:=hall a List.mem_cons_self
   omega
theorem grpO_len:(grpO T f).length=(rootsU f T.length).length:=by unfold grpO outU;rw[List.length_map,List.length_map]
theorem grpO_at(h:i<(rootsU f T.length).length):(grpO T f)[i]'(by rw[grpO_len];exact h)=(T.getD (bestU (ltG T) f T.length (rootsU f T.length)[i]) ([],[]),memU f T.length (rootsU f T.length)[i]):=by
 simp only[grpO,outU,List.getElem_map]
end
theorem firE_0:∀{L:List Fa},(∀f∈L,faE f=0)→firE L=0
 | [],_=>rfl
 | f :: L,h=>by
  simp only[firE]
  rw[h f List.mem_cons_self,if_pos rfl]
  exact firE_0 fun x hx=>h x (List.mem_cons_of_mem _ hx)
theorem sgnE_0{L:List Fa}{d:Int}(h:∀f∈L,faE f=0)(hl:L.length≤64)(h1:1≤d)(h2:d≤16):sgnE L d=0:=by
 unfold sgnE
 rw[if_neg (by omega),if_neg (by omega),if_neg (by omega)]
 exact firE_0 h
section
variable {M:Mem}{K:AV→Hp→Mem→Prop}
theorem dsplit_ok(u:Value)(L:List Fa)(d:Int)(hu:IsR M 5 faC u L)(ho:∀f∈L,faOk M f)(he:sgnE L d=0)(hK:∀u' M' f,Mem.le M M'→Lab L.length (lnkR (L.map faB) d) f→GRV M' u' (grpO (L.map faB) f)→K (.ext (.tuple #[u',.int .i64 0])) [] M'):CallS Try.prog 16 [.ext u,.ext (.int .i64 d)] [] M [] K:=
 gsplit_ok u L d hu ho (by have:=sgnE_64 he;omega) (fun h=>absurd he h) fun _ u' M1 O m1 h1 h2=>by
  obtain ⟨f,h3,rfl⟩:=h1
  rw[List.length_map]at h3
  exact hK u' M1 f m1 h3 h2.v
end
section
variable {b:Nat}{T T0:TypeId}{Ls:List (List Value)}{k i n O:Nat}
theorem le_famPut{s:St}(l:List Value)(E:Env)(R:Hp)(hi:i<Ls.length)(hl:Ls[i]=l)(hn:l.length=n)(hO:lkH s.hp O=some (T0,(famC b Ls).set i (.slo k 0 n 1)))
  (hk:lkH s.hp k=some (T,l.map .ext)) (hF:∀j (hj:j<Ls.length),j≠i→lkH s.hp (j+b)=some (T,Ls[j].map .ext)) (hkb:k<b) (hOb:O<b) (hOk:O≠k)
  (hE:subE E s.env) (hE1:hasK k (mentE E)=false) (hE2:ltB b (mentE E)=true) (hR:subHp R s.hp) (hR1:hasK k (mentH R)=false) (hR2:ltB b (mentH R)=true) (hR3:hasK O (keysH R)=false)
  (hfx:hasK k s.fx=false) (hfx2:ltB b s.fx=true) (hsb:s.kb≤b) (hkeep:keepLt s.kb ((O,T0,famC b Ls) :: famH b T Ls R) s.hp) :
  Le s {env:=E,hp:=(O,T0,famC b Ls) :: famH b T Ls R,M:=s.M,kb:=s.kb,fx:=s.fx,fr:=s.fr}:=fun c q ρ a w g=>by
 let ρ':Rho:=fun j=>if j=i+b then ρ k else ρ j
 have hne:∀j,j≠i+b→ρ j=ρ' j:=fun j h=>by simp only[ρ',if_neg h]
 have hself:ρ' (i+b)=ρ k:=by simp only[ρ',if_pos rfl]
 have hlt:∀j,j<b→ρ j=ρ' j:=fun j h=>hne j (by omega)
 have hsrc:∀j T' cs,lkH ((O,T0,famC b Ls) :: famH b T Ls R) j=some (T',cs)→(j=O∧T'=T0∧cs=famC b Ls)∨(j≠O∧∃q,∃hq:q<Ls.length,j=q+b∧T'=T∧cs=Ls[q].map .ext)∨(j≠O∧j<b∧j≠k∧lkH s.hp j=some (T',cs)∧(∀m∈mentL cs,m<b∧m≠k)):=fun j T' cs hj=>by
  simp only[lkH]at hj
  split at hj
  ·rename_i e;cases hj;exact .inl ⟨e.symm,rfl,rfl⟩
  ·rename_i e
   have e:j≠O:=fun h=>e h.symm
   by_cases hb:b≤j
   ·cases hq:Ls[j-b]? with
    | some l'=>
     obtain ⟨hq1,hq2⟩:=List.getElem?_eq_some_iff.1 hq
     unfold famH at hj
     rw[lkH_append,lkH_famB,if_pos hb,hq]at hj
     simp only[Option.map_some,Option.some.injEq,Prod.mk.injEq]at hj
     exact .inr (.inl ⟨e,j-b,hq1,by omega,hj.1.symm,by rw[←hj.2,hq2]⟩)
    | none=>
     unfold famH at hj
     rw[lkH_append,lkH_famB,if_pos hb,hq]at hj
     have:=ltB_no hR2 hb
     exact absurd (mentH_lk (T:=T') (cs:=cs) hj (.inl rfl)) this
   ·rw[lkH_fam (by omega)]at hj
    refine .inr (.inr ⟨e,by omega,fun h=>hasK_no.1 hR1 (mentH_lk (T:=T') (cs:=cs) hj (.inl h.symm)),subHp_lk hR j _ hj,fun m hm=>⟨?_,fun h=>hasK_no.1 hR1 (mentH_lk hj (.inr (h▸hm)))⟩⟩)
    exact Classical.byContradiction fun h=>ltB_no hR2 (show b≤m by omega) (mentH_lk hj (.inr hm))
 have hold:∀j x,lkH ((O,T0,famC b Ls) :: famH b T Ls R) j=some x→∃j0,ρ' j=ρ j0∧(lkH s.hp j0).isSome=true∧((j=i+b∧j0=k)∨(j≠i+b∧j≠k∧j0=j)):=fun j x hj=>by
  rcases hsrc j x.1 x.2 hj with ⟨rfl,_,_⟩|⟨_,q,hq,rfl,_,_⟩|⟨_,h1,h2,h3,_⟩
  ·exact ⟨j,(hlt j hOb).symm,by rw[hO];rfl,.inr ⟨by omega,hOk,rfl⟩⟩
  ·by_cases e:q=i
   ·subst e;exact ⟨k,hself,by rw[hk];rfl,.inl ⟨rfl,rfl⟩⟩
   ·exact ⟨q+b,(hne _ (by omega)).symm,by rw[hF q hq e];rfl,.inr ⟨by omega,by omega,rfl⟩⟩
  ·exact ⟨j,(hlt j h1).symm,by rw[h3];rfl,.inr ⟨by omega,h2,rfl⟩⟩
 refine ⟨ρ',{df:=g.df,sz:=g.sz,env:=fun t=>?_,hp:=fun j T' cs bb hj hb'=>?_,no:=fun j T' cs hj hb'=>?_,inj:=fun j j' bb bb' hj hj' hb1 hb2' e=>?_,os:=g.os,tape:=g.tape,output:=g.output,size:=g.size,block:=g.block,sub:=g.sub,le:=g.le,mf:=g.mf,fix:=fun j hj=>?_,fx:=fun j hj=>?_,kl:=g.kl,fr:=g.fr}⟩
 ·rcases subE_lk hE t with h|h
  ·show (lk E t).is ρ' _
   rw[h];trivial
  ·have h1:=g.env t
   rw[←h]at h1
   exact is_agree (fun j hj=>hlt j (Classical.byContradiction fun hc=>ltB_no hE2 (show b≤j by omega) (mentE_lk hj))) h1
 ·rcases hsrc j T' cs hj with ⟨rfl,rfl,rfl⟩|⟨_,q,hq,rfl,rfl,rfl⟩|⟨_,h1,h2,h3,h4⟩
  ·rw[←hlt _ hOb]at hb'
   obtain ⟨⟨arr,f1⟩,f2⟩:=g.hp j T' _ bb hO hb'
   refine ⟨⟨arr,f1.there,f1.size,by have:=f1.le;rwa[List.length_set]at this,fun q v hv=>?_⟩,f2⟩
   rw[famC_get?]at hv
   cases e:Ls[q]? with
   | none=>rw[e]at hv;cases hv
   | some l'=>
    rw[e]at hv
    simp only[Option.map_some,Option.some.injEq]at hv
    subst hv
    obtain ⟨hq,hq2⟩:=List.getElem?_eq_some_iff.1 e
    by_cases eq:q=i
    ·subst eq
     have h5:=f1.is q (.slo k 0 n 1) (by rw[List.getElem?_set,if_pos rfl,if_pos (by rw[famC_len];exact hq)])
     have h6:isSlo ρ k 0 n 1 (arr.getD q undef):=h5
     show isSlo ρ' (q+b) 0 l'.length 1 _
     unfold isSlo at h6 ⊢
     rw[hself]
     rw[show l'.length=n by rw[←hq2,hl,hn]]
     exact h6
    ·have h5:=f1.is q (.slo (q+b) 0 l'.length 1) (by rw[List.getElem?_set,if_neg (fun h=>eq h.symm),famC_get?,e];rfl)
     refine is_agree (fun m hm=>?_) h5
     have:m=q+b:=by simpa [AV.ment] using hm
     subst this
     exact hne _ (by omega)
  ·have hex:∀(l':List Value) m,m∈mentL (l'.map AV.ext)→False:=fun l' m hm=>by rw[mentL_ext]at hm;cases hm
   by_cases e:q=i
   ·subst e
    rw[hself]at hb'
    obtain ⟨⟨arr,f1⟩,f2⟩:=g.hp k _ _ bb hk hb'
    rw[hl]
    exact ⟨⟨arr,f1.there,f1.size,f1.le,fun p v hv=>is_agree (fun m hm=>(hex l m (mentL_get hv hm)).elim) (f1.is p v hv)⟩,f2⟩
   ·rw[←hne _ (by omega)]at hb'
    obtain ⟨⟨arr,f1⟩,f2⟩:=g.hp _ _ _ bb (hF q hq e) hb'
    exact ⟨⟨arr,f1.there,f1.size,f1.le,fun p v hv=>is_agree (fun m hm=>(hex _ m (mentL_get hv hm)).elim) (f1.is p v hv)⟩,f2⟩
  ·rw[←hlt j h1]at hb'
   obtain ⟨⟨arr,f1⟩,f2⟩:=g.hp j T' cs bb h3 hb'
   exact ⟨⟨arr,f1.there,f1.size,f1.le,fun p v hv=>is_agree (fun m hm=>hlt m (h4 m (mentL_get hv hm)).1) (f1.is p v hv)⟩,f2⟩
 ·rcases hsrc j T' cs hj with ⟨rfl,rfl,rfl⟩|⟨_,q,hq,rfl,rfl,rfl⟩|⟨_,h1,h2,h3,h4⟩
  ·rw[←hlt _ hOb]at hb'
   have:=g.no j _ _ hO hb'
   have h5:((famC b Ls).set i (.slo k 0 n 1)).length=0:=by rw[this];rfl
   rw[List.length_set]at h5
   exact List.eq_nil_of_length_eq_zero h5
  ·by_cases e:q=i
   ·subst e
    rw[hself]at hb'
    rw[hl]
    exact g.no k _ _ hk hb'
   ·rw[←hne _ (by omega)]at hb'
    exact g.no _ _ _ (hF q hq e) hb'
  ·rw[←hlt j h1]at hb'
   exact g.no j T' cs h3 hb'
 ·obtain ⟨x,hx⟩:=Option.isSome_iff_exists.1 hj
  obtain ⟨x',hx'⟩:=Option.isSome_iff_exists.1 hj'
  obtain ⟨j0,p1,p2,p3⟩:=hold j x hx
  obtain ⟨j1,q1,q2,q3⟩:=hold j' x' hx'
  rw[p1]at hb1
  rw[q1]at hb2'
  have h0:=g.inj j0 j1 bb bb' p2 q2 hb1 hb2' e
  omega
 ·exact keepLt_ok hkeep j (g.kl j hj) (g.fix j hj)
 ·rw[←hlt j (Classical.byContradiction fun h=>ltB_no hfx2 (show b≤j by omega) hj)]
  exact g.fx j hj
theorem famC_setset(x:AV)(l:List Value):(famC b Ls).set i x=(famC b (Ls.set i l)).set i x:=by
 refine List.ext_getElem? fun q=>?_
 rw[List.getElem?_set,List.getElem?_set,famC_len,famC_len,List.length_set,famC_get?,famC_get?,List.getElem?_set]
 by_cases e:i=q
 ·rw[if_pos e,if_pos e]
 ·rw[if_neg e,if_neg e,if_neg e]
theorem le_famSet{s:St}(l:List Value)(E:Env)(R:Hp)(hi:i<Ls.length)(hn:l.length=n)(hO:lkH s.hp O=some (T0,(famC b Ls).set i (.slo k 0 n 1)))
  (hk:lkH s.hp k=some (T,l.map .ext)) (hF:∀j (hj:j<Ls.length),lkH s.hp (j+b)=some (T,Ls[j].map .ext)) (hkb:k<b) (hOb:O<b) (hOk:O≠k)
  (hE:subE E s.env) (hE1:hasK k (mentE E)=false) (hE2:ltB b (mentE E)=true) (hR:subHp R s.hp) (hR1:hasK k (mentH R)=false) (hR2:ltB b (mentH R)=true) (hR3:hasK O (keysH R)=false)
  (hfx:hasK k s.fx=false) (hfx2:ltB b s.fx=true) (hsb:s.kb≤b) (hkeep:keepLt s.kb ((O,T0,famC b (Ls.set i l)) :: famH b T (Ls.set i l) R) s.hp) :
  Le s {env:=E,hp:=(O,T0,famC b (Ls.set i l)) :: famH b T (Ls.set i l) R,M:=s.M,kb:=s.kb,fx:=s.fx,fr:=s.fr}:=by
 refine le_famPut (i:=i) (k:=k) (n:=n) l E R (by rw[List.length_set];exact hi) (by rw[List.getElem_set_self]) hn (by rw[←famC_setset];exact hO) hk (fun j hj hne=>?_) hkb hOb hOk hE hE1 hE2 hR hR1 hR2 hR3 hfx hfx2 hsb hkeep
 rw[List.length_set]at hj
 rw[hF j hj,List.getElem_set_ne (fun h=>hne h.symm)]
theorem lk_famI{x:TypeId×List AV}(hO:O<b)(hi:i<Ls.length):lkH ((O,x) :: famH b T Ls []) (i+b)=some (T,Ls[i].map .ext):=by
 simp only[lkH]
 rw[if_neg (by omega)]
 exact lkH_famI hi
theorem lk_famC{x:TypeId×List AV}(hOb:O<b):∀k y,lkH ((O,x) :: famH b T Ls []) k=some y→(k=O∧y=x)∨∃i,∃hi:i<Ls.length,k=i+b∧y=(T,Ls[i].map .ext):=fun k y h=>by
 simp only[lkH]at h
 split at h
 ·rename_i e;cases h;exact .inl ⟨e.symm,rfl⟩
 ·right
  unfold famH at h
  rw[List.append_nil,lkH_famB]at h
  split at h
  ·rename_i hb
   cases hq:Ls[k-b]? with
   | none=>rw[hq]at h;cases h
   | some l=>
    rw[hq]at h
    obtain ⟨h1,h2⟩:=List.getElem?_eq_some_iff.1 hq
    simp only[Option.map_some,Option.some.injEq]at h
    exact ⟨k-b,h1,by omega,h2▸h.symm⟩
  ·cases h
theorem Fz.fam{z:St}{B:St→Prop}(t m:Nat)(E:Env)(R:Hp)(hm:m=Ls.length)(ht:lk z.env t=.slo O 0 m 1)(hO:lkH z.hp O=some (T0,famC b Ls))(hF:∀i (hi:i<Ls.length),lkH z.hp (i+b)=some (T,Ls[i].map .ext))(hOb:O<b)(hkO:z.kb≤O)
  (hE:subE E z.env) (hE1:hasK O (mentE E)=false) (hE2:ltB b (mentE E)=true) (hR:subHp R z.hp) (hR1:hasK O (mentH R)=false) (hR2:ltB b (mentH R)=true) (hkeep:keepLt z.kb R z.hp) (hfx:∀k,k<z.kb→(lkH z.hp k).isSome=true→k∈z.fx)
  (h:∀M' U,Mem.le z.M M'→LLF z.M M' U Ls→B {env:=(t,.ext U) :: E,hp:=R,M:=M',kb:=z.kb,fx:=z.fx,fr:=z.fr}):Fz z B:=by
 have hk:∀k,(lkH ((O,T0,famC b Ls) :: famH b T Ls []) k).isSome=true→k=O∨b≤k:=fun k hk=>by
  obtain ⟨y,hy⟩:=Option.isSome_iff_exists.1 hk
  rcases lk_famC hOb k y hy with ⟨rfl,_⟩|⟨i,hi,rfl,_⟩
  ·exact .inl rfl
  ·exact .inr (by omega)
 refine Fz.frz ((O,T0,famC b Ls) :: famH b T Ls []) [t] E R (closed_fam hOb) (fun k x hx=>?_) hE (fun k h1 h2=>?_) hR (fun k h1 h2=>?_) hkeep hfx (fun M' ρ w us hM hh hu=>?_)
 ·rcases lk_famC hOb k x hx with ⟨rfl,rfl⟩|⟨i,hi,rfl,rfl⟩
  ·exact ⟨hO,hkO⟩
  ·exact ⟨hF i hi,by omega⟩
 ·rcases hk k h1 with rfl|h3
  ·exact hasK_no.1 hE1 h2
  ·exact ltB_no hE2 h3 h2
 ·rcases hk k h1 with rfl|h3
  ·exact hasK_no.1 hR1 h2
  ·exact ltB_no hR2 h3 h2
 ·have h1:=hu t
  rw[ht]at h1
  have h2:=borO_is hh (closed_fam hOb) _ _ (fun j hj=>by
   have:j=O:=by simpa [AV.ment] using hj
   subst this
   simp[lkH]) h1
  exact h M' (us t) hM (h2.fam (b:=b) (T0:=T0) (T:=T) (by simp[lkH]) hm fun i hi=>lk_famI hOb hi)
end
def rowF(n:Nat)(G:Nat→Bool):List Value:=(List.range n).map fun b=>.bool (G b)
def matF(n:Nat)(F:Nat→Nat→Bool):List (List Value):=(List.range n).map fun a=>rowF n (F a)
section
variable {n a b:Nat}{F F':Nat→Nat→Bool}{G G':Nat→Bool}
theorem rowF_len:(rowF n G).length=n:=by simp[rowF]
theorem matF_len:(matF n F).length=n:=by simp[matF]
theorem rowF_at(h:b<n):(rowF n G)[b]'(by rw[rowF_len];exact h)=.bool (G b):=by simp[rowF]
theorem matF_at(h:a<n):(matF n F)[a]'(by rw[matF_len];exact h)=rowF n (F a):=by simp[matF]
theorem rowF_congr(h:∀b,b<n→G b=G' b):rowF n G=rowF n G':=by
 unfold rowF
 exact List.map_congr_left fun b hb=>by rw[h b (List.mem_range.1 hb)]
theorem rowF_set(h:b<n):(rowF n G).set b (.bool true)=rowF n fun b'=>G b' || b'==b:=by
 apply List.ext_getElem
 ·simp[rowF]
 ·intro j h1 h2
  have hj:j<n:=by rw[rowF_len]at h2;exact h2
  rw[List.getElem_set]
  by_cases e:b=j
  ·rw[if_pos e,rowF_at hj];simp[e]
  ·rw[if_neg e,rowF_at hj,rowF_at hj]
   have:(j==b)=false:=by simp;exact fun h=>e h.symm
   rw[this,Bool.or_false]
theorem matF_set(h:a<n):(matF n F).set a (rowF n fun b'=>F a b' || b'==b)=matF n fun a' b'=>F a' b' || (a'==a&&b'==b):=by
 apply List.ext_getElem
 ·simp[matF]
 ·intro j h1 h2
  have hj:j<n:=by rw[matF_len]at h2;exact h2
  rw[List.getElem_set]
  by_cases e:a=j
  ·subst e
   rw[if_pos rfl,matF_at hj]
   exact rowF_congr fun b' _=>by simp
  ·rw[if_neg e,matF_at hj,matF_at hj]
   have:(j==a)=false:=by simp;exact fun h=>e h.symm
   exact rowF_congr fun b' _=>by rw[this];simp
theorem rowF_no:List.replicate n (.bool false)=rowF n fun _=>false:=by
 apply List.ext_getElem
 ·simp[rowF]
 ·intro j h1 h2
  rw[rowF_at (by rw[rowF_len]at h2;exact h2)];simp
theorem famC_mat{k:Nat}:famC k (matF n F)=famC k (matF n F'):=by
 apply List.ext_getElem?
 intro j
 rw[famC_get?,famC_get?]
 by_cases h:j<n
 ·rw[List.getElem?_eq_getElem (by rw[matF_len];exact h),List.getElem?_eq_getElem (by rw[matF_len];exact h),Option.map_some,Option.map_some,matF_at h,matF_at h,rowF_len,rowF_len]
 ·rw[List.getElem?_eq_none (by rw[matF_len];omega),List.getElem?_eq_none (by rw[matF_len];omega)]
end
theorem upH_famB{T:TypeId}{l:List Value}:∀(Ls:List (List Value)) (b i:Nat),i<Ls.length→upH (famB b T Ls) (i+b) (l.map .ext)=famB b T (Ls.set i l)
 | [],b,i,h=>absurd h (Nat.not_lt_zero _)
 | x :: Ls,b,0,_=>by
  rw[famB_cons,List.set_cons_zero,famB_cons]
  simp[upH]
 | x :: Ls,b,i+1,h=>by
  rw[famB_cons,List.set_cons_succ,famB_cons]
  have:=upH_famB (T:=T) (l:=l) Ls (b+1) i (Nat.lt_of_succ_lt_succ h)
  rw[show i+(b+1)=i+1+b by omega]at this
  simp only[upH]
  rw[if_neg (by omega),this]
theorem upH_famI{T:TypeId}{l:List Value}{Ls:List (List Value)}{b i:Nat}(h:i<Ls.length):upH (famH b T Ls []) (i+b) (l.map .ext)=famH b T (Ls.set i l) []:=by
 unfold famH
 rw[List.append_nil,List.append_nil,upH_famB Ls b i h]
def togO(O:List GO)(a b:Nat):Bool:=O.any fun o=>o.2.contains a&&o.2.contains b
theorem togO_take{O:List GO}{i:Nat}(h:i<O.length)(a b:Nat):togO (O.take (i+1)) a b=(togO (O.take i) a b || (O[i].2.contains a&&O[i].2.contains b)):=by
 unfold togO
 rw[List.take_succ_eq_append_getElem h,List.any_append];simp
theorem contains_take_succ{l:List Nat}{q x:Nat}(hq:q<l.length):(l.take (q+1)).contains x=((l.take q).contains x || (x==l[q])):=by
 rw[List.take_succ_eq_append_getElem hq,Bool.eq_iff_iff]
 simp only[List.contains_iff_mem,List.mem_append,List.mem_singleton,Bool.or_eq_true,beq_iff_eq]
theorem repN_nil(n:Nat):(repN [.slice none 0 0] n).map AV.ext=List.replicate n (.ext (.slice none 0 0)):=by
 induction n with
 | zero=>rfl
 | succ n ih=>simp only[repN,List.map_append,ih,List.replicate_succ];rfl
theorem mentL_rep(n:Nat)(v:Value):mentL (List.replicate n (.ext v))=[]:=by
 induction n with
 | zero=>rfl
 | succ n ih=>simp only[List.replicate_succ,mentL,AV.ment,ih,List.append_nil]
section
variable {M:Mem}{K:AV→Hp→Mem→Prop}
def tgA(M:Mem)(g:Value)(n i:Nat)(Ls:List (List Value)):St:={env:=[(6,.ext (.int .i64 (i:Int))),(5,.slo 13 0 n 1),(0,.ext g),(1,.ext (.int .i64 (n:Int)))],hp:=(13,48,famC 1000 Ls) :: famH 1000 4 Ls [],M:=M,kb:=0,fx:=[]}
def tgB(M:Mem)(g:Value)(n i:Nat)(F:Nat→Nat→Bool):St:={env:=[(7,.ext (.int .i64 (i:Int))),(5,.slo 13 0 n 1),(0,.ext g),(1,.ext (.int .i64 (n:Int)))],hp:=(13,48,famC 1000 (matF n F)) :: famH 1000 4 (matF n F) [],M:=M,kb:=0,fx:=[]}
def tgC(M:Mem)(g m:Value)(n i w p:Nat)(F:Nat→Nat→Bool):St:={env:=[(36,.ext (.int .i64 (p:Int))),(35,.ext (.int .i64 (w:Int))),(34,.ext m),(7,.ext (.int .i64 (i:Int))),(5,.slo 13 0 n 1),(0,.ext g),(1,.ext (.int .i64 (n:Int)))],hp:=(13,48,famC 1000 (matF n F)) :: famH 1000 4 (matF n F) [],M:=M,kb:=0,fx:=[]}
def tgD(M:Mem)(g m:Value)(n i w p q a:Nat)(F:Nat→Nat→Bool):St:={env:=[(46,.ext (.int .i64 (q:Int))),(45,.ext (.int .i64 (w:Int))),(44,.ext m),(9,.ext (.int .i64 (a:Int))),(36,.ext (.int .i64 (p:Int))),(35,.ext (.int .i64 (w:Int))),(34,.ext m),(7,.ext (.int .i64 (i:Int))),(5,.slo 13 0 n 1),(0,.ext g),(1,.ext (.int .i64 (n:Int)))],hp:=(13,48,famC 1000 (matF n F)) :: famH 1000 4 (matF n F) [],M:=M,kb:=0,fx:=[]}
theorem together_ok(g:Value)(O:List GO)(n:Nat)(hn:n≤100)(hg:GRV M g O)(hO:okO O)(hm:∀o∈O,∀j∈o.2,j<n)(hK:∀U M',Mem.le M M'→LL M' U (matF n (togO O))→K (.ext U) [] M'):CallS Try.prog 19 [.ext g,.ext (.int .i64 (n:Int))] [] M [] K:=by
 obtain ⟨L,g1,g2,g3⟩:=hg
 refine inlS (cs:=[19]) Try.mixed Try.func19 rfl (by kernel_rfl) 0 rfl rfl ?_
 simp only[Try.f19]
 have go:=g1.one
 have gl:=g1.len
 have gs:=g1.sl
 have hL:O.length=L.length:=by rw[←g3,List.length_map]
 have hn64:=hO.len
 have n0:(0:Int)≤(n:Int):=by omega
 have nT:((n:Int)).toNat=n:=by omega
 have t2:=repN_nil n
 have hz:(repN [.bool false] n).map AV.ext=(rowF n fun _=>false).map AV.ext:=by
  rw[←rowF_no,cE_rep Value.bool n false]
  simp[cE]
 (try with_reducible refine Fz.of ?_);(replace hb0:=true_and True);refine Go1.mk ?_;repeat' ((first|(with_reducible refine Go1.go ?_)|((with_reducible first|refine brv_mk ?_ ?_|refine gsplitD ?_ ?_|refine gsplitG ?_ ?_)<;>intro h<;>(try simp only[Bool.not_eq_true',Bool.not_eq_false']at h)<;>replace hb0:=h)|(refine And.intro ?_ ?_;(try simp only[sxO]at *);omega)|fail)<;>(try simp (maxSteps:=1000000) only [hb0,go,gl,gs,n0,nT,t2,maxLen,mentL_rep,hasK_nil,↓hold_pre,awayP,runOps,regK,step1,newK,genR,appR,obl,buildR,Value.cells,closeK,keepH,outV,retK,ret1,retC,RetV,Option.getD,runD,stepD,afterK,undef,simprocAttr,sxB,↓sxD,sxE,sxTab]))
 refine ⟨fun d z=>∃i Ls,d=n-i∧i≤n∧Ls.length=n∧(∀j,j<i→Ls[j]? = some (rowF n fun _=>false))∧z=tgA M g n i Ls,⟨n,tgA M g n 0 (List.replicate n []),(le_fam (O:=13) (b:=1000) (n:=n) 4 (T0:=48) (by simp[lkH]) (by simp[ltB,mentE,AV.ment]) (by simp[ltB,mentH,mentL,AV.ment,mentL_rep]) (by simp[ltB]) (by simp)).trans (le_sub ⟨rfl,rfl,rfl,rfl,trivial⟩ ⟨by rw[lkH_fam (by omega)];simp[lkH,upH],subHp_fam (fun i hi=>lkH_famI hi) trivial⟩ rfl rfl rfl (keepLt0 _)),⟨0,_,by omega,by omega,List.length_replicate,fun j hj=>absurd hj (by omega),rfl⟩⟩,?_⟩
 rintro d z ⟨i,Ls,rfl,hi,hLs,hLi,rfl⟩
 have fl:=famC_len (b:=1000) (Ls:=Ls)
 rw[hLs]at fl
 by_cases hlt:i<n
 ·have d1:decide ((i:Int)<(n:Int))=true:=by rw[decide_eq_true_eq];omega
  have b1:(0:Int)≤(i:Int):=by omega
  have b2:(i:Int)<(n:Int):=by omega
  have wi:IntKind.i64.wrap ((i:Int)+1)=((i+1:Nat):Int):=by rw[wrap_id (by omega) (by omega)];omega
  have f1:hasK 22 (mentL (famC 1000 Ls))=false:=famC_ment Ls 1000 (by omega)
  have f2:hasK 22 (mentH (famH 1000 4 Ls []))=false:=by rw[hasK_fam (by omega)];rfl
  (try with_reducible refine Fz.of ?_);(replace hb0:=true_and True);refine Go1.mk ?_;repeat' ((first|(with_reducible refine Go1.go ?_)|((with_reducible first|refine brv_mk ?_ ?_|refine gsplitD ?_ ?_|refine gsplitG ?_ ?_)<;>intro h<;>(try simp only[Bool.not_eq_true',Bool.not_eq_false']at h)<;>replace hb0:=h)|(refine And.intro ?_ ?_;(try simp only[sxO]at *);omega)|fail)<;>(try simp (maxSteps:=1000000) only [hb0,tgA,d1,b1,b2,wi,fl,f1,f2,hlt,go,n0,nT,hz,maxLen,hasK_app,hasK_nil,Nat.mul_one,Nat.zero_add,↓hold_pre,awayP,runOps,regK,step1,newK,genR,appR,obl,buildR,Value.cells,closeK,keepH,outV,retK,ret1,retC,RetV,Option.getD,runD,stepD,afterK,undef,simprocAttr,sxB,↓sxD,sxE,sxTab]))
  refine ⟨n-(i+1),tgA M g n (i+1) (Ls.set i (rowF n fun _=>false)),by omega,le_famSet (O:=13) (k:=22) (b:=1000) (n:=n) (rowF n fun _=>false) _ [] (by omega) rowF_len (by simp[lkH]) (by simp[lkH]) (fun j hj=>?_) (by omega) (by omega) (by omega) ⟨rfl,rfl,rfl,rfl,trivial⟩ (by simp[mentE,AV.ment,hasK]) (by simp[mentE,AV.ment,ltB]) trivial rfl rfl rfl rfl rfl (Nat.zero_le _) (keepLt0 _),i+1,_,rfl,by omega,by rw[List.length_set,hLs],fun j hj=>?_,rfl⟩
  ·simp only[lkH]
   rw[if_neg (by omega),if_neg (by omega)]
   exact lkH_famI hj
  ·rw[List.getElem?_set]
   by_cases e:i=j
   ·rw[if_pos e,if_pos (by omega)]
   ·rw[if_neg e];exact hLi j (by omega)
 obtain rfl:n=i:=by omega
 have hLe:Ls=matF n fun _ _=>false:=by
  apply List.ext_getElem?
  intro j
  by_cases h:j<n
  ·rw[hLi j h,List.getElem?_eq_getElem (by rw[matF_len];exact h),matF_at h]
  ·rw[List.getElem?_eq_none (by omega),List.getElem?_eq_none (by rw[matF_len];omega)]
 subst hLe
 have d1:decide ((n:Int)<(n:Int))=false:=by simp
 (try with_reducible refine Fz.of ?_);(replace hb0:=true_and True);refine Go1.mk ?_;repeat' ((first|(with_reducible refine Go1.go ?_)|((with_reducible first|refine brv_mk ?_ ?_|refine gsplitD ?_ ?_|refine gsplitG ?_ ?_)<;>intro h<;>(try simp only[Bool.not_eq_true',Bool.not_eq_false']at h)<;>replace hb0:=h)|(refine And.intro ?_ ?_;(try simp only[sxO]at *);omega)|fail)<;>(try simp (maxSteps:=1000000) only [hb0,tgA,d1,fl,go,n0,hasK_app,hasK_nil,Nat.mul_one,Nat.zero_add,↓hold_pre,awayP,runOps,regK,step1,newK,genR,appR,obl,buildR,Value.cells,closeK,keepH,outV,retK,ret1,retC,RetV,Option.getD,runD,stepD,afterK,undef,simprocAttr,sxB,↓sxD,sxE,sxTab]))
 refine ⟨fun z=>z=tgB M g n L.length (togO O),?_,?_⟩
 ·(try with_reducible refine Fz.of ?_);(replace hb0:=true_and True);refine Go1.mk ?_;repeat' ((first|(with_reducible refine Go1.go ?_)|((with_reducible first|refine brv_mk ?_ ?_|refine gsplitD ?_ ?_|refine gsplitG ?_ ?_)<;>intro h<;>(try simp only[Bool.not_eq_true',Bool.not_eq_false']at h)<;>replace hb0:=h)|(refine And.intro ?_ ?_;(try simp only[sxO]at *);omega)|fail)<;>(try simp (maxSteps:=1000000) only [hb0,go,gl,gs,hasK_app,hasK_nil,↓hold_pre,awayP,runOps,regK,step1,newK,genR,appR,obl,buildR,Value.cells,closeK,keepH,outV,retK,ret1,retC,RetV,Option.getD,runD,stepD,afterK,undef,simprocAttr,sxB,↓sxD,sxE,sxTab]))
  refine ⟨fun k z=>∃i,k=L.length-i∧i≤L.length∧z=tgB M g n i (togO (O.take i)),⟨L.length,tgB M g n 0 (togO (O.take 0)),le_sub ⟨rfl,rfl,rfl,rfl,trivial⟩ ⟨rfl,subHp_fam (fun j hj=>by simp only[lkH];exact lkH_famI hj) trivial⟩ rfl rfl rfl (keepLt0 _),⟨0,rfl,Nat.zero_le _,rfl⟩⟩,?_⟩
  rintro k z ⟨i,rfl,hi,rfl⟩
  by_cases hlt:i<L.length
  case neg=>
   obtain rfl:i=L.length:=by omega
   have c1:decide ((L.length:Int)<(L.length:Int))=false:=by simp
   (try with_reducible refine Fz.of ?_);(replace hb0:=true_and True);refine Go1.mk ?_;repeat' ((first|(with_reducible refine Go1.go ?_)|((with_reducible first|refine brv_mk ?_ ?_|refine gsplitD ?_ ?_|refine gsplitG ?_ ?_)<;>intro h<;>(try simp only[Bool.not_eq_true',Bool.not_eq_false']at h)<;>replace hb0:=h)|(refine And.intro ?_ ?_;(try simp only[sxO]at *);omega)|fail)<;>(try simp (maxSteps:=1000000) only [hb0,tgB,c1,go,gl,gs,hasK_app,hasK_nil,↓hold_pre,awayP,runOps,regK,step1,newK,genR,appR,obl,buildR,Value.cells,closeK,keepH,outV,retK,ret1,retC,RetV,Option.getD,runD,stepD,afterK,undef,simprocAttr,sxB,↓sxD,sxE,sxTab]))
   rw[List.take_of_length_le (by omega)]
   exact ⟨tgB M g n L.length (togO O),le_sub ⟨rfl,rfl,rfl,rfl,trivial⟩ ⟨rfl,subHp_fam (fun j hj=>by simp only[lkH];exact lkH_famI hj) trivial⟩ rfl rfl rfl (keepLt0 _),rfl⟩
  have c1:decide ((i:Int)<(L.length:Int))=true:=by rw[decide_eq_true_eq];omega
  have z2:(0:Int)≤(i:Int):=by omega
  have z3:(i:Int)<(L.length:Int):=by omega
  have wi:IntKind.i64.wrap ((i:Int)+1)=((i+1:Nat):Int):=by rw[wrap_id (by omega) (by omega)];omega
  have gn:=g1.nn hlt
  have gp:=g1.pt hlt
  have ga:lookM Try.prog 25 M (addP (elemP g 3 i) 2)=some L[i].u:=g1.atF (P:=Try.prog) (T:=25) (fun _=>rfl) tk25 tz25 hlt (o:=2) (v:=L[i].u) rfl
  have k2:=(g2 _ (List.getElem_mem hlt)).2
  have hiO:i<O.length:=by omega
  have hOi:O[i].2=L[i].l:=by
   have:O[i]=L[i].o:=by simp only[←g3,List.getElem_map]
   rw[this];rfl
  have hms:=hm _ (List.getElem_mem hiO)
  have hml:=(hO.at_ _ (List.getElem_mem hiO)).2.1
  have htog:=fun a b=>togO_take hiO a b
  rw[hOi]at hms hml
  have htog:∀a b,togO (O.take (i+1)) a b=(togO (O.take i) a b || (L[i].l.contains a&&L[i].l.contains b)):=fun a b=>by rw[htog,hOi]
  clear hOi
  generalize L[i].u=m at *
  generalize L[i].l=ms at *
  have mo:=k2.one
  have ml:=k2.len
  have msl:=k2.sl
  obtain ⟨F0,hF0⟩:∃F0,F0=togO (O.take i):=⟨_,rfl⟩
  rw[←hF0]at htog ⊢
  (try with_reducible refine Fz.of ?_);(replace hb0:=true_and True);refine Go1.mk ?_;repeat' ((first|(with_reducible refine Go1.go ?_)|((with_reducible first|refine brv_mk ?_ ?_|refine gsplitD ?_ ?_|refine gsplitG ?_ ?_)<;>intro h<;>(try simp only[Bool.not_eq_true',Bool.not_eq_false']at h)<;>replace hb0:=h)|(refine And.intro ?_ ?_;(try simp only[sxO]at *);omega)|fail)<;>(try simp (maxSteps:=1000000) only [hb0,tgB,c1,z2,z3,gn,gp,ga,mo,ml,msl,go,gl,gs,hasK_app,hasK_nil,↓hold_pre,awayP,runOps,regK,step1,newK,genR,appR,obl,buildR,Value.cells,closeK,keepH,outV,retK,ret1,retC,RetV,Option.getD,runD,stepD,afterK,undef,simprocAttr,sxB,↓sxD,sxE,sxTab]))
  refine ⟨fun k z=>∃p,k=ms.length-p∧p≤ms.length∧z=tgC M g m n i ms.length p (fun a b=>F0 a b || ((ms.take p).contains a&&ms.contains b)),⟨ms.length,tgC M g m n i ms.length 0 (fun a b=>F0 a b || ((ms.take 0).contains a&&ms.contains b)),?_,⟨0,rfl,Nat.zero_le _,rfl⟩⟩,?_⟩
  ·rw[show (fun a b=>F0 a b || ((ms.take 0).contains a&&ms.contains b))=F0 from funext fun a=>funext fun b=>by simp]
   exact le_sub ⟨rfl,rfl,rfl,rfl,rfl,rfl,rfl,trivial⟩ ⟨rfl,subHp_fam (fun j hj=>by simp only[lkH];exact lkH_famI hj) trivial⟩ rfl rfl rfl (keepLt0 _)
  rintro k z ⟨p,rfl,hp,rfl⟩
  by_cases hpt:p<ms.length
  case neg=>
   obtain rfl:p=ms.length:=by omega
   have c2:decide ((ms.length:Int)<(ms.length:Int))=false:=by simp
   have e:(fun a b=>F0 a b || ((ms.take ms.length).contains a&&ms.contains b))=togO (O.take (i+1)):=funext fun a=>funext fun b=>by rw[htog,List.take_length]
   rw[e]
   (try with_reducible refine Fz.of ?_);(replace hb0:=true_and True);refine Go1.mk ?_;repeat' ((first|(with_reducible refine Go1.go ?_)|((with_reducible first|refine brv_mk ?_ ?_|refine gsplitD ?_ ?_|refine gsplitG ?_ ?_)<;>intro h<;>(try simp only[Bool.not_eq_true',Bool.not_eq_false']at h)<;>replace hb0:=h)|(refine And.intro ?_ ?_;(try simp only[sxO]at *);omega)|fail)<;>(try simp (maxSteps:=1000000) only [hb0,tgC,c2,wi,mo,ml,msl,go,gl,gs,hasK_app,hasK_nil,↓hold_pre,awayP,runOps,regK,step1,newK,genR,appR,obl,buildR,Value.cells,closeK,keepH,outV,retK,ret1,retC,RetV,Option.getD,runD,stepD,afterK,undef,simprocAttr,sxB,↓sxD,sxE,sxTab]))
   exact ⟨L.length-(i+1),tgB M g n (i+1) (togO (O.take (i+1))),by omega,le_sub ⟨rfl,rfl,rfl,rfl,trivial⟩ ⟨rfl,subHp_fam (fun j hj=>by simp only[lkH];exact lkH_famI hj) trivial⟩ rfl rfl rfl (keepLt0 _),i+1,rfl,by omega,rfl⟩
  have c2:decide ((p:Int)<(ms.length:Int))=true:=by rw[decide_eq_true_eq];omega
  have v2:(0:Int)≤(p:Int):=by omega
  have v3:(p:Int)<(ms.length:Int):=by omega
  have wp:IntKind.i64.wrap ((p:Int)+1)=((p+1:Nat):Int):=by rw[wrap_id (by omega) (by omega)];omega
  have mn:=k2.nn hpt
  have pa:=k2.at (P:=Try.prog) (T:=3) tk3 tz3 hpt
  have han:=hms _ (List.getElem_mem hpt)
  have hnx:∀a',(ms.take (p+1)).contains a'=((ms.take p).contains a' || (a'==ms[p])):=fun a'=>contains_take_succ hpt
  generalize ms[p]=a at *
  obtain ⟨F1,hF1⟩:∃F1:Nat→Nat→Bool,F1=fun a b=>F0 a b || ((ms.take p).contains a&&ms.contains b):=⟨_,rfl⟩
  rw[←hF1]
  (try with_reducible refine Fz.of ?_);(replace hb0:=true_and True);refine Go1.mk ?_;repeat' ((first|(with_reducible refine Go1.go ?_)|((with_reducible first|refine brv_mk ?_ ?_|refine gsplitD ?_ ?_|refine gsplitG ?_ ?_)<;>intro h<;>(try simp only[Bool.not_eq_true',Bool.not_eq_false']at h)<;>replace hb0:=h)|(refine And.intro ?_ ?_;(try simp only[sxO]at *);omega)|fail)<;>(try simp (maxSteps:=1000000) only [hb0,tgC,natV,c2,v2,v3,pa,mn,z2,z3,gn,gp,ga,mo,ml,msl,go,gl,gs,hasK_app,hasK_nil,↓hold_pre,awayP,runOps,regK,step1,newK,genR,appR,obl,buildR,Value.cells,closeK,keepH,outV,retK,ret1,retC,RetV,Option.getD,runD,stepD,afterK,undef,simprocAttr,sxB,↓sxD,sxE,sxTab]))
  refine ⟨fun k z=>∃q,k=ms.length-q∧q≤ms.length∧z=tgD M g m n i ms.length p q a (fun a' b'=>F1 a' b' || (a'==a&&(ms.take q).contains b')),⟨ms.length,tgD M g m n i ms.length p 0 a (fun a' b'=>F1 a' b' || (a'==a&&(ms.take 0).contains b')),?_,⟨0,rfl,Nat.zero_le _,rfl⟩⟩,?_⟩
  ·rw[show (fun a' b'=>F1 a' b' || (a'==a&&(ms.take 0).contains b'))=F1 from funext fun a=>funext fun b=>by simp]
   exact le_sub ⟨rfl,rfl,rfl,rfl,rfl,rfl,rfl,rfl,rfl,rfl,rfl,trivial⟩ ⟨rfl,subHp_fam (fun j hj=>by simp only[lkH];exact lkH_famI hj) trivial⟩ rfl rfl rfl (keepLt0 _)
  rintro k z ⟨q,rfl,hq,rfl⟩
  by_cases hqt:q<ms.length
  case neg=>
   obtain rfl:q=ms.length:=by omega
   have c3:decide ((ms.length:Int)<(ms.length:Int))=false:=by simp
   have e:(fun a' b'=>F1 a' b' || (a'==a&&(ms.take ms.length).contains b'))=fun a b=>F0 a b || ((ms.take (p+1)).contains a&&ms.contains b):=funext fun a'=>funext fun b'=>by
    rw[hF1,hnx,List.take_length]
    dsimp only
    cases F0 a' b'<;>cases (ms.take p).contains a'<;>cases (a'==a)<;>cases ms.contains b'<;>rfl
   rw[e]
   (try with_reducible refine Fz.of ?_);(replace hb0:=true_and True);refine Go1.mk ?_;repeat' ((first|(with_reducible refine Go1.go ?_)|((with_reducible first|refine brv_mk ?_ ?_|refine gsplitD ?_ ?_|refine gsplitG ?_ ?_)<;>intro h<;>(try simp only[Bool.not_eq_true',Bool.not_eq_false']at h)<;>replace hb0:=h)|(refine And.intro ?_ ?_;(try simp only[sxO]at *);omega)|fail)<;>(try simp (maxSteps:=1000000) only [hb0,tgD,c3,wp,mo,ml,msl,go,gl,gs,hasK_app,hasK_nil,↓hold_pre,awayP,runOps,regK,step1,newK,genR,appR,obl,buildR,Value.cells,closeK,keepH,outV,retK,ret1,retC,RetV,Option.getD,runD,stepD,afterK,undef,simprocAttr,sxB,↓sxD,sxE,sxTab]))
   exact ⟨ms.length-(p+1),tgC M g m n i ms.length (p+1) _,by omega,le_sub ⟨rfl,rfl,rfl,rfl,rfl,rfl,rfl,trivial⟩ ⟨rfl,subHp_fam (fun j hj=>by simp only[lkH];exact lkH_famI hj) trivial⟩ rfl rfl rfl (keepLt0 _),p+1,rfl,by omega,rfl⟩
  have c3:decide ((q:Int)<(ms.length:Int))=true:=by rw[decide_eq_true_eq];omega
  have u2:(0:Int)≤(q:Int):=by omega
  have u3:(q:Int)<(ms.length:Int):=by omega
  have wq:IntKind.i64.wrap ((q:Int)+1)=((q+1:Nat):Int):=by rw[wrap_id (by omega) (by omega)];omega
  have qa:=k2.at (P:=Try.prog) (T:=3) tk3 tz3 hqt
  have hbn:=hms _ (List.getElem_mem hqt)
  have hnq:∀b',(ms.take (q+1)).contains b'=((ms.take q).contains b' || (b'==ms[q])):=fun b'=>contains_take_succ hqt
  generalize ms[q]=b at *
  obtain ⟨F2,hF2⟩:∃F2:Nat→Nat→Bool,F2=fun a' b'=>F1 a' b' || (a'==a&&(ms.take q).contains b'):=⟨_,rfl⟩
  have e3:(fun a' b'=>F2 a' b' || (a'==a&&b'==b))=fun a' b'=>F1 a' b' || (a'==a&&(ms.take (q+1)).contains b'):=funext fun a'=>funext fun b'=>by
   rw[hF2,hnq]
   dsimp only
   cases F1 a' b'<;>cases (a'==a)<;>cases (ms.take q).contains b'<;>cases (b'==b)<;>rfl
  rw[←hF2]
  have r1:(0:Int)≤(a:Int):=by omega
  have r2:(a:Int)<(n:Int):=by omega
  have r3:(0:Int)≤(b:Int):=by omega
  have r4:(b:Int)<(n:Int):=by omega
  have s1:decide ((0:Int)≤(a:Int))=true:=decide_eq_true r1
  have s2:decide ((a:Int)<(n:Int))=true:=decide_eq_true r2
  have s3:decide ((0:Int)≤(b:Int))=true:=decide_eq_true r3
  have s4:decide ((b:Int)<(n:Int))=true:=decide_eq_true r4
  have fl:=famC_len (b:=1000) (Ls:=matF n F2)
  rw[matF_len]at fl
  have haL:a<(matF n F2).length:=by rw[matF_len];exact han
  have fa:=famC_at (b:=1000) haL
  rw[matF_at han,rowF_len]at fa
  have fk:lkH (famH 1000 4 (matF n F2) []) (a+1000)=some (4,(rowF n (F2 a)).map .ext):=by rw[lkH_famI haL,matF_at han]
  have fr:((rowF n (F2 a)).map AV.ext).length=n:=by rw[List.length_map,rowF_len]
  have fs:((rowF n (F2 a)).map AV.ext).set b (.ext (.bool true))=(rowF n fun b'=>F2 a b' || b'==b).map .ext:=by rw[←rowF_set hbn,List.map_set]
  have fu:upH (famH 1000 4 (matF n F2) []) (a+1000) ((rowF n fun b'=>F2 a b' || b'==b).map .ext)=famH 1000 4 (matF n fun a' b'=>F1 a' b' || (a'==a&&(ms.take (q+1)).contains b')) []:=by
   rw[upH_famI haL,matF_set han,e3]
  have fc:famC 1000 (matF n F2)=famC 1000 (matF n fun a' b'=>F1 a' b' || (a'==a&&(ms.take (q+1)).contains b')):=famC_mat
  (try with_reducible refine Fz.of ?_);(replace hb0:=true_and True);refine Go1.mk ?_;repeat' ((first|(with_reducible refine Go1.go ?_)|((with_reducible first|refine brv_mk ?_ ?_|refine gsplitD ?_ ?_|refine gsplitG ?_ ?_)<;>intro h<;>(try simp only[Bool.not_eq_true',Bool.not_eq_false']at h)<;>replace hb0:=h)|(refine And.intro ?_ ?_;(try simp only[sxO]at *);omega)|fail)<;>(try simp (maxSteps:=1000000) only [hb0,tgD,natV,c3,u2,u3,qa,mn,s1,s2,s3,s4,r1,r2,r3,r4,han,hbn,fl,fa,fk,fr,fs,fu,wq,ge_iff_le,mo,ml,msl,go,gl,gs,Nat.mul_one,Nat.zero_add,hasK_app,hasK_nil,↓hold_pre,awayP,runOps,regK,step1,newK,genR,appR,obl,buildR,Value.cells,closeK,keepH,outV,retK,ret1,retC,RetV,Option.getD,runD,stepD,afterK,undef,simprocAttr,sxB,↓sxD,sxE,sxTab]))
  rw[fc]
  exact ⟨ms.length-(q+1),tgD M g m n i ms.length p (q+1) a _,by omega,le_sub ⟨rfl,rfl,rfl,rfl,rfl,rfl,rfl,rfl,rfl,rfl,rfl,trivial⟩ ⟨rfl,subHp_fam (fun j hj=>by simp only[lkH];exact lkH_famI hj) trivial⟩ rfl rfl rfl (keepLt0 _),q+1,rfl,by omega,rfl⟩
 ·rintro z rfl
  refine Fz.fam (O:=13) (b:=1000) (Ls:=matF n (togO O)) (T0:=48) (T:=4) 5 n [] [] matF_len.symm rfl rfl (fun i hi=>by simp only[tgB,lkH];rw[if_neg (by omega)];exact lkH_famI hi) (by decide) (Nat.zero_le _) trivial rfl rfl trivial rfl rfl (keepLt0 _) (fun j hj _=>absurd hj (Nat.not_lt_zero _)) (fun M1 U m1 hU=>?_)
  have m1:Mem.le M M1:=m1
  have hUl:=hU.ll
  obtain ⟨us,hus⟩:=hUl
  have Uo:U.oneCell'=true:=one_sl hus.out.sl
  (try with_reducible refine Fz.of ?_);(replace hb0:=true_and True);refine Go1.mk ?_;repeat' ((first|(with_reducible refine Go1.go ?_)|((with_reducible first|refine brv_mk ?_ ?_|refine gsplitD ?_ ?_|refine gsplitG ?_ ?_)<;>intro h<;>(try simp only[Bool.not_eq_true',Bool.not_eq_false']at h)<;>replace hb0:=h)|(refine And.intro ?_ ?_;(try simp only[sxO]at *);omega)|fail)<;>(try simp (maxSteps:=1000000) only [hb0,tgB,Uo,hasK_nil,↓hold_pre,awayP,runOps,regK,step1,newK,genR,appR,obl,buildR,Value.cells,closeK,keepH,outV,retK,ret1,retC,RetV,Option.getD,runD,stepD,afterK,undef,simprocAttr,sxB,↓sxD,sxE,sxTab]))
  exact hK U M1 m1 hU.ll
end
section
variable {n:Nat}{R S:Nat→Nat→Prop}{f g:Nat→Nat}
theorem tog_lab{T:List (Bst×List Bst)}(hf:Lab T.length R f){a b:Nat}(ha:a<T.length)(hb:b<T.length):togO (grpO T f) a b=decide (f a=f b):=by
 rw[Bool.eq_iff_iff,decide_eq_true_eq]
 unfold togO
 rw[List.any_eq_true]
 constructor
 ·rintro ⟨o,ho,e⟩
  unfold grpO outU at ho
  rw[List.map_map]at ho
  obtain ⟨r,hr,rfl⟩:=List.mem_map.1 ho
  simp only[Function.comp,Bool.and_eq_true,List.contains_iff_mem]at e
  exact (memU_in.1 e.1).2.trans (memU_in.1 e.2).2.symm
 ·intro e
  have h1:f a<T.length:=Nat.lt_of_le_of_lt (hf.le a ha) ha
  refine ⟨(T.getD (bestU (ltG T) f T.length (f a)) ([],[]),memU f T.length (f a)),?_,?_⟩
  ·unfold grpO outU
   rw[List.map_map]
   exact List.mem_map.2 ⟨f a,rootsU_in.2 ⟨h1,hf.id a ha⟩,rfl⟩
  ·simp only[Bool.and_eq_true,List.contains_iff_mem]
   exact ⟨memU_in.2 ⟨ha,rfl⟩,memU_in.2 ⟨hb,e.symm⟩⟩
end
theorem mem_grpO{T:List (Bst×List Bst)}{f:Nat→Nat}:∀o∈grpO T f,∀j∈o.2,j<T.length:=fun o ho j hj=>by
 unfold grpO outU at ho
 rw[List.map_map]at ho
 obtain ⟨r,hr,rfl⟩:=List.mem_map.1 ho
 exact (memU_in.1 hj).1
theorem mat_at{M:Mem}{P:Program}{U:Value}{n:Nat}{F:Nat→Nat→Bool}{T1 T2:TypeId}(h:LL M U (matF n F))(k1:kindT P T1=some false)(z1:szO P T1=some 1)(k2:kindT P T2=some false)(z2:szO P T2=some 1){a b:Nat}(ha:a<n)(hb:b<n) :
  nilS U=false∧slen U=n∧isSl U=true∧U.oneCell'=true∧∃w,lookM P T1 M (elemP U 1 a)=some w∧w.oneCell'=true∧isSl w=true∧slen w=n∧nilS w=false∧lookM P T2 M (elemP w 1 b)=some (.bool (F a b)):=by
 obtain ⟨us,hu⟩:=h
 have hl:=matF_len (n:=n) (F:=F)
 have ha2:a<(matF n F).length:=by omega
 have h1:=hu.at_ a ha2
 have h2:us[a]? = some (us[a]'(by have:=hu.len;omega)):=List.getElem?_eq_getElem _
 rw[matF_at ha,rowF_len]at h1
 refine ⟨hu.out.nn (by omega),by rw[hu.out.len,hl],hu.out.sl,one_sl hu.out.sl,_,hu.out.at1 k1 z1 h2,one_sl h1.sl,h1.sl,h1.len,h1.nn (by omega),?_⟩
 exact h1.at1 k2 z2 (by rw[List.getElem?_eq_getElem (by rw[rowF_len];exact hb),rowF_at hb])
section
variable {M:Mem}{K:AV→Hp→Mem→Prop}
theorem esign_ok(f:Fa)(he:faE f=0)(hf:faOk M f)(hK:∀u' M',Mem.le M M'→IsL M' sbV u' (faB f).2→FreshS M u'→K (.ext (sgT (faB f).1 u' 0)) [] M'):CallS Try.prog 10 [.ext (faV f.1 f.2.1 f.2.2.1 f.2.2.2.1 f.2.2.2.2.1)] [] M [] K:=by
 obtain ⟨p,t,e,m,u,X⟩:=f
 obtain ⟨a1,a2,a3,a4⟩:=hf
 have he:(if (usB p t&&plB e)=true then (if 64<X.length then (2:Int) else 0) else 1)=0:=he
 have e3:(usB p t&&plB e)=true:=by
  cases h:(usB p t&&plB e) with
  | true=>rfl
  | false=>rw[h,if_neg (by decide)]at he;cases he
 rw[e3,if_pos rfl]at he
 have e4:¬64<X.length:=fun h=>by rw[if_pos h]at he;cases he
 exact sign_ok p t e m u X a1 a2 a3 a4 (fun h=>by rw[e3]at h;cases h) (fun _ h=>absurd h e4) fun _ _ u' M' c1 c2 c3=>hK u' M' c1 c2 c3
structure sixF (f:Fa):Prop where
 e:faE f=0
 cs:∀c∈f.2.2.2.2.2,c.1.length=1∧c.2.1=[120,46,103,111]
end
section
variable {P:Program}{c:Cx}{n:Nat}{s:St}{ρ:Rho}{a:Act}{w:World}{K:St→Prop}
theorem ask_insertV{o:Oper}{t kt et:TypeId}{m x y:Operand}{b:Nat}{ob:Obj}{ks:List (Value×Value)}{key v:Value}{l:Lit}(hop:o.op=.insert t m x y)(KK:Maps.Keyed P kt)(ht:P.underlying t=some (.map kt et))
  (hm:ev s m=.ext (.map (some b))) (hx:ev s x=.ext key) (hy:ev s y=.ext v) (hfr:b∈s.fr) (hM:s.M b=some ob) (hI:MapV ob ks) (hks:∀p∈ks,∃l,keyOf P kt p.1=some l) (hkey:keyOf P kt key=some l) (hnew:∀p∈ks,p.1≠key)
  (hK:∀ob',MapV ob' (ks++[(key,v)])→K (({s with M:=updM s.M b ob'}:St).put o.dst .unk)):AskK P o s K:=by
 intro c n a w Q hg hd
 obtain ⟨ρ,g⟩:=hg
 have em:a.eval m=.map (some b):=by have:=g.ev m;rw[hm]at this;exact this
 have ex:a.eval x=key:=by have:=g.ev x;rw[hx]at this;exact this
 have ey:a.eval y=v:=by have:=g.ev y;rw[hy]at this;exact this
 obtain ⟨es,clock,rfl,h1⟩:=hI
 have hb:=g.sub _ _ hM
 have hkeys:∀e∈es.toList,∃l,keyOf P kt e.key=some l:=fun e he=>hks (e.key,e.val) (by rw[←h1];exact List.mem_map.2 ⟨e,he,rfl⟩)
 unfold Oper.wp
 rcases KK.find w hkey es.toList hkeys with ⟨f1,f2⟩|⟨j,e0,f1,f2,f3⟩
 ·have hrun:(Instr.mapUpdate t (.map (some b)) key v).run P w=.ok () (ChangeMaps.setBlock w b (.map (es.push ⟨key,v,clock⟩) (clock+1))):=by
   simp[Instr.mapUpdate,run_underlying ht,MapKept.run_getObj_map hb,KK.check w false hkey,f1,MapKept.run_setObj_map _ hb,Result.andThen,ChangeMaps.setBlock]
  simp[execOp,hop,em,ex,ey,hrun,Result.andThen]
  have hlt:b<w.heap.size:=(Array.getElem?_eq_some_iff.1 hb).1
  refine ⟨_,hK (.map (es.push ⟨key,v,clock⟩) (clock+1)) ⟨_,_,rfl,?_⟩,ρ,(g.chM hfr hM (w':=ChangeMaps.setBlock w b (.map (es.push ⟨key,v,clock⟩) (clock+1))) ⟨rfl,rfl,rfl,by simp[ChangeMaps.setBlock],fun i hi=>by simp[ChangeMaps.setBlock,Array.getElem?_setIfInBounds,Ne.symm hi]⟩ (by simp[ChangeMaps.setBlock,Array.getElem?_setIfInBounds,hlt])).put trivial hd⟩
  simp[h1]
 ·exact absurd f3 (hnew (e0.key,e0.val) (by rw[←h1];exact List.mem_map.2 ⟨e0,List.mem_of_getElem? f2,rfl⟩))
theorem ask_lenV{o:Oper}{cl:Call}{t kt et:TypeId}{m:Operand}{b:Nat}{ob:Obj}{ks:List (Value×Value)}(hop:o.op=.call cl)(hc:cl.callee=.builtin .len)(ha:cl.args=#[m])(hT:cl.argTypes=#[t])(ht:P.underlying t=some (.map kt et))
  (hm:ev s m=.ext (.map (some b))) (hM:s.M b=some ob) (hI:MapV ob ks) (hK:K (s.put o.dst (.ext (.int .i64 (ks.length:Int))))):AskK P o s K:=by
 intro c n a w Q hg hd
 obtain ⟨ρ,g⟩:=hg
 have em:a.eval m=.map (some b):=by have:=g.ev m;rw[hm]at this;exact this
 obtain ⟨es,clock,rfl,h1⟩:=hI
 have hb:=g.sub _ _ hM
 have hl:es.size=ks.length:=by rw[←h1];simp
 unfold Oper.wp
 have hrun:(Builtin.len_ #[t] o.type #[.map (some b)]).run P w=.ok (.int .i64 (ks.length:Int)) w:=by
  simp[Builtin.len_,run_underlying ht,MapKept.run_getObj_map hb,Result.andThen,goInt,hl]
 simp[execOp,hop,resolve,hc,ha,hT,invoke,builtin,em,hrun,Result.andThen]
 exact ⟨_,hK,ρ,g.put rfl hd⟩
end
def encB(R:List Nat):List (Value×Value):=R.map fun (j:Nat)=>(.int .i64 (j:Int),.bool true)
theorem intKey_nat{q:Nat}(h:q<1000000):intKey (.int .i64 (q:Int))=some (q:Int):=by
 show (if (Lit.int .i64 (q:Int)).wf=true then some (q:Int) else none)=_
 rw[if_pos (wf64 (by omega) (by omega))]
theorem mapM_enc{M:Mem}{b q:Nat}{ob:Obj}{R:List Nat}(hM:M b=some ob)(hI:MapV ob (encB R))(hR:∀j∈R,j<1000000)(hq:q<1000000):mapM M b (.int .i64 (q:Int))=some (.bool (R.contains q)):=by
 obtain ⟨es,clock,rfl,h1⟩:=hI
 have hin:∀e∈es.toList,∃j∈R,e.key=.int .i64 (j:Int)∧e.val=.bool true:=fun e he=>by
  have h2:(e.key,e.val)∈encB R:=by rw[←h1];exact List.mem_map.2 ⟨e,he,rfl⟩
  obtain ⟨j,hj,e2⟩:=List.mem_map.1 h2
  exact ⟨j,hj,(congrArg Prod.fst e2).symm,(congrArg Prod.snd e2).symm⟩
 have hall:es.toList.all (fun e=>(intKey e.key).isSome&&trueV e.val)=true:=by
  rw[List.all_eq_true]
  intro e he
  obtain ⟨j,hj,e1,e2⟩:=hin e he
  rw[e1,e2,intKey_nat (hR j hj)];rfl
 unfold mapM
 rw[hM]
 simp only[mapO,intKey_nat hq,if_pos hall]
 have:(es.toList.any fun e=>intKey e.key==some (q:Int))=R.contains q:=by
  rw[Bool.eq_iff_iff,List.any_eq_true,List.contains_iff_mem]
  constructor
  ·rintro ⟨e,he,h⟩
   obtain ⟨j,hj,e1,_⟩:=hin e he
   rw[e1,intKey_nat (hR j hj)]at h
   have h:(j:Int)=(q:Int):=by simpa using h
   have:j=q:=by omega
   exact this▸hj
  ·intro hq2
   have h2:((Value.int .i64 (q:Int)),Value.bool true)∈encB R:=List.mem_map.2 ⟨q,hq2,rfl⟩
   rw[←h1]at h2
   obtain ⟨e,he,e2⟩:=List.mem_map.1 h2
   refine ⟨e,he,?_⟩
   have e3:e.key=.int .i64 (q:Int):=congrArg Prod.fst e2
   rw[e3,intKey_nat hq];simp
 rw[this]
theorem encB_key{P:Program}{kt:TypeId}(hk:P.underlying kt=some (.int .i64)){R:List Nat}(hR:∀j∈R,j<1000000):∀p∈encB R,∃l,keyOf P kt p.1=some l:=fun p hp=>by
 obtain ⟨j,hj,rfl⟩:=List.mem_map.1 hp
 have:=hR j hj
 exact ⟨_,Maps.keyOf_int_mk hk (wf64 (by omega) (by omega))⟩
theorem encB_new{R:List Nat}{q:Nat}(h:q∉R):∀p∈encB R,p.1≠Value.int .i64 (q:Int):=fun p hp e=>by
 obtain ⟨j,hj,rfl⟩:=List.mem_map.1 hp
 have e:(j:Int)=(q:Int):=by injection e
 have:j=q:=by omega
 exact h (this▸hj)
theorem encB_snoc(R:List Nat)(q:Nat):encB R++[(.int .i64 (q:Int),.bool true)]=encB (R++[q]):=by unfold encB;rw[List.map_append];rfl
section
variable {M:Mem}{K:AV→Hp→Mem→Prop}
def plSt(M:Mem)(v1 v2:Value)(n i:Nat):St:={env:=[(31,.ext (.int .i64 (i:Int))),(30,.ext (.int .i64 (n:Int))),(29,.ext v1),(11,.ext v2)],hp:=[],M:=M,kb:=0,fx:=[]}
theorem plinked_ok(f1 f2:Fa)(d:Int)(e1:faE f1=0)(e2:faE f2=0)(h1:faOk M f1)(h2:faOk M f2)(hK:∀M',Mem.le M M'→K (.ext (.bool (lkB (keysB (faB f1).1 (faB f1).2 d) (keysB (faB f2).1 (faB f2).2 d)))) [] M'):CallS Try.prog 20 [.ext (faV f1.1 f1.2.1 f1.2.2.1 f1.2.2.2.1 f1.2.2.2.2.1),.ext (faV f2.1 f2.2.1 f2.2.2.1 f2.2.2.2.1 f2.2.2.2.2.1),.ext (.int .i64 d)] [] M [] K:=by
 refine inlS (cs:=[]) Try.mixed Try.func20 rfl (by kernel_rfl) 0 rfl rfl ?_
 simp only[Try.f20]
 have o1:=h1.1.one
 have o2:=h2.1.one
 have b1:=okB_fa h1
 have b2:=okB_fa h2
 (replace hb0:=true_and True);refine Go1.mk ?_;repeat' ((first|(with_reducible refine Go1.go ?_)|((with_reducible first|refine brv_mk ?_ ?_|refine gsplitD ?_ ?_|refine gsplitG ?_ ?_)<;>intro h<;>(try simp only[Bool.not_eq_true',Bool.not_eq_false']at h)<;>replace hb0:=h)|(((with_reducible refine isCall (f:=10) ?_);refine callA_nil (by kernel_rfl) ?_;refine (esign_ok f1 e1 h1 (fun s1 M1 m1 g1 _=>Stop.mk ?_))))|(refine And.intro ?_ ?_;(try simp only[sxO]at *);omega)|fail)<;>(try simp (maxSteps:=1000000) only [hb0,faV,o1,o2,hasK_nil,bs_mk,bs_app,bs_ext,bs_size,bs_toList,bs_at,bs_cells,List.take_length,imp_ga,guard_pk,guard_pk2,↓hold_pre,awayP,runOps,regK,step1,newK,genR,appR,obl,buildR,Value.cells,closeK,keepH,outV,retK,ret1,retC,RetV,Option.getD,runD,stepD,afterK,undef,simprocAttr,sxB,↓sxD,sxE,sxTab]))
 have m1:Mem.le M M1:=m1
 have so1:=g1.one
 refine Stop.go ?_
 (replace hb0:=true_and True);refine Go1.mk ?_;repeat' ((first|(with_reducible refine Go1.go ?_)|((with_reducible first|refine brv_mk ?_ ?_|refine gsplitD ?_ ?_|refine gsplitG ?_ ?_)<;>intro h<;>(try simp only[Bool.not_eq_true',Bool.not_eq_false']at h)<;>replace hb0:=h)|(((with_reducible refine isCall (f:=10) ?_);refine callA_nil (by kernel_rfl) ?_;refine (esign_ok f2 e2 (h2.le m1) (fun s2 M2 m2 g2 _=>Stop.mk ?_))))|(refine And.intro ?_ ?_;(try simp only[sxO]at *);omega)|fail)<;>(try simp (maxSteps:=1000000) only [hb0,faV,sgT,o1,o2,so1,hasK_nil,bs_mk,bs_app,bs_ext,bs_size,bs_toList,bs_at,bs_cells,List.take_length,imp_ga,guard_pk,guard_pk2,↓hold_pre,awayP,runOps,regK,step1,newK,genR,appR,obl,buildR,Value.cells,closeK,keepH,outV,retK,ret1,retC,RetV,Option.getD,runD,stepD,afterK,undef,simprocAttr,sxB,↓sxD,sxE,sxTab]))
 have m2:Mem.le M1 M2:=m2
 have so2:=g2.one
 refine Stop.go ?_
 (replace hb0:=true_and True);refine Go1.mk ?_;repeat' ((first|(with_reducible refine Go1.go ?_)|((with_reducible first|refine brv_mk ?_ ?_|refine gsplitD ?_ ?_|refine gsplitG ?_ ?_)<;>intro h<;>(try simp only[Bool.not_eq_true',Bool.not_eq_false']at h)<;>replace hb0:=h)|(((with_reducible refine isCall (f:=13) ?_);refine callA_nil (by kernel_rfl) ?_;refine (gkeys_ok (faB f2).1 s2 (faB f2).2 d g2 b2 (fun v2 M3 m3 a2 _=>Stop.mk ?_))))|(refine And.intro ?_ ?_;(try simp only[sxO]at *);omega)|fail)<;>(try simp (maxSteps:=1000000) only [hb0,faV,sgT,o1,o2,so1,so2,hasK_nil,bs_mk,bs_app,bs_ext,bs_size,bs_toList,bs_at,bs_cells,List.take_length,imp_ga,guard_pk,guard_pk2,↓hold_pre,awayP,runOps,regK,step1,newK,genR,appR,obl,buildR,Value.cells,closeK,keepH,outV,retK,ret1,retC,RetV,Option.getD,runD,stepD,afterK,undef,simprocAttr,sxB,↓sxD,sxE,sxTab]))
 have m3:Mem.le M2 M3:=m3
 have w2:=a2.one
 refine Stop.go ?_
 (replace hb0:=true_and True);refine Go1.mk ?_;repeat' ((first|(with_reducible refine Go1.go ?_)|((with_reducible first|refine brv_mk ?_ ?_|refine gsplitD ?_ ?_|refine gsplitG ?_ ?_)<;>intro h<;>(try simp only[Bool.not_eq_true',Bool.not_eq_false']at h)<;>replace hb0:=h)|(((with_reducible refine isCall (f:=13) ?_);refine callA_nil (by kernel_rfl) ?_;refine (gkeys_ok (faB f1).1 s1 (faB f1).2 d ((g1.le m2).le m3) b1 (fun v1 M4 m4 a1 _=>Stop.mk ?_))))|(refine And.intro ?_ ?_;(try simp only[sxO]at *);omega)|fail)<;>(try simp (maxSteps:=1000000) only [hb0,faV,sgT,o1,o2,so1,so2,w2,hasK_nil,bs_mk,bs_app,bs_ext,bs_size,bs_toList,bs_at,bs_cells,List.take_length,imp_ga,guard_pk,guard_pk2,↓hold_pre,awayP,runOps,regK,step1,newK,genR,appR,obl,buildR,Value.cells,closeK,keepH,outV,retK,ret1,retC,RetV,Option.getD,runD,stepD,afterK,undef,simprocAttr,sxB,↓sxD,sxE,sxTab]))
 have m4:Mem.le M3 M4:=m4
 have w1:=a1.one
 have l1:=a1.len
 have c1:=a1.sl
 have a2:=a2.le m4
 have hk1:=keysB_two (m:=(faB f1).1) (C:=(faB f1).2) (d:=d)
 have hk2:=keysB_two (m:=(faB f2).1) (C:=(faB f2).2) (d:=d)
 have hK:=hK M4 (m1.trans (m2.trans (m3.trans m4)))
 generalize keysB (faB f1).1 (faB f1).2 d=A at *
 generalize keysB (faB f2).1 (faB f2).2 d=B at *
 refine Stop.go ?_
 (replace hb0:=true_and True);refine Go1.mk ?_;repeat' ((first|(with_reducible refine Go1.go ?_)|((with_reducible first|refine brv_mk ?_ ?_|refine gsplitD ?_ ?_|refine gsplitG ?_ ?_)<;>intro h<;>(try simp only[Bool.not_eq_true',Bool.not_eq_false']at h)<;>replace hb0:=h)|(refine And.intro ?_ ?_;(try simp only[sxO]at *);omega)|fail)<;>(try simp (maxSteps:=1000000) only [hb0,w1,w2,l1,c1,hasK_nil,bs_mk,bs_app,bs_ext,bs_size,bs_toList,bs_at,bs_cells,List.take_length,imp_ga,guard_pk,guard_pk2,↓hold_pre,awayP,runOps,regK,step1,newK,genR,appR,obl,buildR,Value.cells,closeK,keepH,outV,retK,ret1,retC,RetV,Option.getD,runD,stepD,afterK,undef,simprocAttr,sxB,↓sxD,sxE,sxTab]))
 refine ⟨fun k z=>∃i,i≤A.length∧(∀y∈A.take i,B.contains y=false)∧k=A.length-i∧z=plSt M4 v1 v2 A.length i,⟨A.length,plSt M4 v1 v2 A.length 0,le_sub ⟨rfl,rfl,rfl,rfl,trivial⟩ trivial rfl rfl rfl (keepLt0 _),⟨0,by omega,by simp,rfl,rfl⟩⟩,?_⟩
 rintro k z ⟨i,hi,hno,rfl,rfl⟩
 by_cases hlt:i<A.length
 case neg=>
  have d1:decide ((i:Int)<(A.length:Int))=false:=by rw[decide_eq_false_iff_not];omega
  obtain rfl:i=A.length:=by omega
  rw[List.take_length]at hno
  have e:lkB A B=false:=by
   unfold lkB
   rw[List.any_eq_false]
   intro y hy;rw[hno y hy];simp
  rw[e]at hK
  (replace hb0:=true_and True);refine Go1.mk ?_;repeat' ((first|(with_reducible refine Go1.go ?_)|((with_reducible first|refine brv_mk ?_ ?_|refine gsplitD ?_ ?_|refine gsplitG ?_ ?_)<;>intro h<;>(try simp only[Bool.not_eq_true',Bool.not_eq_false']at h)<;>replace hb0:=h)|(refine And.intro ?_ ?_;(try simp only[sxO]at *);omega)|fail)<;>(try simp (maxSteps:=1000000) only [hb0,plSt,d1,w1,w2,l1,c1,hasK_nil,bs_mk,bs_app,bs_ext,bs_size,bs_toList,bs_at,bs_cells,List.take_length,imp_ga,guard_pk,guard_pk2,↓hold_pre,awayP,runOps,regK,step1,newK,genR,appR,obl,buildR,Value.cells,closeK,keepH,outV,retK,ret1,retC,RetV,Option.getD,runD,stepD,afterK,undef,simprocAttr,sxB,↓sxD,sxE,sxTab]))
  exact hK
 have d1:decide ((i:Int)<(A.length:Int))=true:=by rw[decide_eq_true_eq];omega
 have z2:(0:Int)≤(i:Int):=by omega
 have z3:(i:Int)<(A.length:Int):=by omega
 have n1:=a1.nn hlt
 have p1:=a1.at (P:=Try.prog) (T:=9) tk9 tz9 hlt
 have htk:A.take (i+1)=A.take i++[A[i]]:=by rw[List.take_add_one,List.getElem?_eq_getElem hlt];rfl
 have hAi:=List.getElem_mem hlt
 generalize A[i]=x at *
 (replace hb0:=true_and True);refine Go1.mk ?_;repeat' ((first|(with_reducible refine Go1.go ?_)|((with_reducible first|refine brv_mk ?_ ?_|refine gsplitD ?_ ?_|refine gsplitG ?_ ?_)<;>intro h<;>(try simp only[Bool.not_eq_true',Bool.not_eq_false']at h)<;>replace hb0:=h)|(((with_reducible refine isCall (f:=39) ?_);refine callA_nil (by kernel_rfl) ?_;refine (has_ok v2 B x a2 (by omega) (Stop.mk ?_))))|(refine And.intro ?_ ?_;(try simp only[sxO]at *);omega)|fail)<;>(try simp (maxSteps:=1000000) only [hb0,plSt,sbV,d1,z2,z3,n1,p1,w1,w2,l1,c1,hasK_nil,bs_mk,bs_app,bs_ext,bs_size,bs_toList,bs_at,bs_cells,List.take_length,imp_ga,guard_pk,guard_pk2,↓hold_pre,awayP,runOps,regK,step1,newK,genR,appR,obl,buildR,Value.cells,closeK,keepH,outV,retK,ret1,retC,RetV,Option.getD,runD,stepD,afterK,undef,simprocAttr,sxB,↓sxD,sxE,sxTab]))
 cases hx:B.contains x with
 | true=>
  have e:lkB A B=true:=by
   unfold lkB
   rw[List.any_eq_true]
   exact ⟨x,hAi,hx⟩
  rw[e]at hK
  refine Stop.go ?_
  (replace hb0:=true_and True);refine Go1.mk ?_;repeat' ((first|(with_reducible refine Go1.go ?_)|((with_reducible first|refine brv_mk ?_ ?_|refine gsplitD ?_ ?_|refine gsplitG ?_ ?_)<;>intro h<;>(try simp only[Bool.not_eq_true',Bool.not_eq_false']at h)<;>replace hb0:=h)|(refine And.intro ?_ ?_;(try simp only[sxO]at *);omega)|fail)<;>(try simp (maxSteps:=1000000) only [hb0,hx,w1,w2,l1,c1,hasK_nil,bs_mk,bs_app,bs_ext,bs_size,bs_toList,bs_at,bs_cells,List.take_length,imp_ga,guard_pk,guard_pk2,↓hold_pre,awayP,runOps,regK,step1,newK,genR,appR,obl,buildR,Value.cells,closeK,keepH,outV,retK,ret1,retC,RetV,Option.getD,runD,stepD,afterK,undef,simprocAttr,sxB,↓sxD,sxE,sxTab]))
  exact hK
 | false=>
  have wi:IntKind.i64.wrap ((i:Int)+1)=((i+1:Nat):Int):=by rw[wrap_id (by omega) (by omega)];omega
  refine Stop.go ?_
  (replace hb0:=true_and True);refine Go1.mk ?_;repeat' ((first|(with_reducible refine Go1.go ?_)|((with_reducible first|refine brv_mk ?_ ?_|refine gsplitD ?_ ?_|refine gsplitG ?_ ?_)<;>intro h<;>(try simp only[Bool.not_eq_true',Bool.not_eq_false']at h)<;>replace hb0:=h)|(refine And.intro ?_ ?_;(try simp only[sxO]at *);omega)|fail)<;>(try simp (maxSteps:=1000000) only [hb0,hx,wi,w1,w2,l1,c1,hasK_nil,bs_mk,bs_app,bs_ext,bs_size,bs_toList,bs_at,bs_cells,List.take_length,imp_ga,guard_pk,guard_pk2,↓hold_pre,awayP,runOps,regK,step1,newK,genR,appR,obl,buildR,Value.cells,closeK,keepH,outV,retK,ret1,retC,RetV,Option.getD,runD,stepD,afterK,undef,simprocAttr,sxB,↓sxD,sxE,sxTab]))
  refine ⟨A.length-(i+1),plSt M4 v1 v2 A.length (i+1),by omega,le_sub ⟨rfl,rfl,rfl,rfl,trivial⟩ trivial rfl rfl rfl (keepLt0 _),i+1,by omega,?_,rfl,rfl⟩
  rw[htk]
  intro y hy
  rcases List.mem_append.1 hy with hy|hy
  ·exact hno y hy
  ·rw[List.mem_singleton.1 hy];exact hx
end
theorem nodup_sub:∀{l m:List Nat},l.Nodup→(∀x∈l,x∈m)→l.length≤m.length
 | [],m,_,_=>Nat.zero_le _
 | a :: l,m,h,hs=>by
  obtain ⟨h1,h2⟩:=List.nodup_cons.1 h
  have ha:=hs a List.mem_cons_self
  have h3:=nodup_sub (m:=m.erase a) h2 fun x hx=>(List.mem_erase_of_ne (fun e=>h1 (by rw[←e];exact hx))).2 (hs x (List.mem_cons_of_mem _ hx))
  have h4:=List.length_erase_of_mem ha
  have h5:0<m.length:=List.length_pos_of_mem ha
  rw[List.length_cons];omega
structure Perm2 (n:Nat) (T S:List (Bst×List Bst)) (p z:Nat→Nat):Prop where
 lt:T.length=n
 ls:S.length=n
 pp:∀i,i<n→p i<n∧z (p i)=i
 zz:∀i,i<n→z i<n∧p (z i)=i
 at_:∀i,i<n→S.getD i ([],[])=T.getD (z i) ([],[])
section
variable {n:Nat}{T S:List (Bst×List Bst)}{p z:Nat→Nat}{d:Int}{f g:Nat→Nat}
theorem Perm2.symm(h:Perm2 n T S p z):Perm2 n S T z p:=⟨h.ls,h.lt,h.zz,h.pp,fun i hi=>by rw[h.at_ _ (h.pp i hi).1,(h.pp i hi).2]⟩
theorem sgK_getD{T:List (Bst×List Bst)}{i:Nat}(hi:i<T.length):sgK T d i=keysB (T.getD i ([],[])).1 (T.getD i ([],[])).2 d:=by
 rw[sgK_at hi,List.getD_eq_getElem?_getD,List.getElem?_eq_getElem hi];rfl
theorem Perm2.sg(h:Perm2 n T S p z){i:Nat}(hi:i<n):sgK S d i=sgK T d (z i):=by
 rw[sgK_getD (by rw[h.ls];exact hi),sgK_getD (by rw[h.lt];exact (h.zz i hi).1),h.at_ i hi]
theorem Perm2.lnk(h:Perm2 n T S p z){i k:Nat}(hi:i<n)(hk:k<n)(hr:lnkR S d i k):lnkR T d (z i) (z k):=by
 unfold lnkR at hr ⊢
 rw[←h.sg hi,←h.sg hk];exact hr
end
theorem insZ_getD{Z:List Nat}{a x q:Nat}(ha:a≤Z.length):(Z.take a++x :: Z.drop a).getD q 0=if q<a then Z.getD q 0 else if q=a then x else Z.getD (q-1) 0:=by
 have hl:(Z.take a).length=a:=by rw[List.length_take,Nat.min_eq_left ha]
 rw[List.getD_eq_getElem?_getD,List.getD_eq_getElem?_getD,List.getD_eq_getElem?_getD]
 by_cases h:q<a
 ·rw[if_pos h,List.getElem?_append_left (by omega),List.getElem?_take_of_lt h]
 ·rw[if_neg h,List.getElem?_append_right (by omega),hl]
  by_cases e:q=a
  ·rw[if_pos e,e,Nat.sub_self];rfl
  ·rw[if_neg e,show q-a=(q-1-a)+1 by omega,List.getElem?_cons_succ,List.getElem?_drop,show a+(q-1-a)=q-1 by omega]
structure InsI (i:Nat) (P Z:List Nat):Prop where
 len:Z.length=i
 at_:∀j,j<i→P.getD j 0<i∧Z.getD (P.getD j 0) 0=j
 mem:∀k,k<i→Z.getD k 0<i∧P.getD (Z.getD k 0) 0=k
theorem InsI.zero{P:List Nat}:InsI 0 P []:=⟨rfl,fun j h=>absurd h (Nat.not_lt_zero _),fun j h=>absurd h (Nat.not_lt_zero _)⟩
def bumpN(a x:Nat):Nat:=if a≤x then x+1 else x
theorem InsI.next{i a:Nat}{P Z R:List Nat}(h:InsI i P Z)(ha:a≤i)(hR:∀j,j<i→R.getD j 0=bumpN a (P.getD j 0))(hRi:R.getD i 0=a):InsI (i+1) R (Z.take a++i :: Z.drop a):=by
 have hz:a≤Z.length:=by rw[h.len];exact ha
 refine ⟨by rw[List.length_append,List.length_cons,List.length_take,List.length_drop,h.len];omega,fun j hj=>?_,fun k hk=>?_⟩
 ·rw[insZ_getD hz]
  by_cases e:j=i
  ·subst e
   rw[hRi,if_neg (by omega),if_pos rfl]
   exact ⟨by omega,rfl⟩
  ·obtain ⟨h1,h2⟩:=h.at_ j (by omega)
   rw[hR j (by omega)]
   unfold bumpN
   by_cases c:a≤P.getD j 0
   ·rw[if_pos c,if_neg (by omega),if_neg (by omega),Nat.add_sub_cancel]
    exact ⟨by omega,h2⟩
   ·rw[if_neg c,if_pos (by omega)]
    exact ⟨by omega,h2⟩
 ·rw[insZ_getD hz]
  by_cases c:k<a
  ·rw[if_pos c]
   obtain ⟨h1,h2⟩:=h.mem k (by omega)
   rw[hR _ h1,h2]
   unfold bumpN
   rw[if_neg (by omega)]
   exact ⟨by omega,rfl⟩
  ·rw[if_neg c]
   by_cases e:k=a
   ·rw[if_pos e,hRi];exact ⟨by omega,e.symm⟩
   ·rw[if_neg e]
    obtain ⟨h1,h2⟩:=h.mem (k-1) (by omega)
    rw[hR _ h1,h2]
    unfold bumpN
    rw[if_pos (by omega)]
    exact ⟨by omega,by omega⟩
structure ReaI (ms R:List Nat):Prop where
 nd:R.Nodup
 sub:∀x∈R,x∈ms
def clR(lnk:Nat→Nat→Prop)(R:List Nat)(a b:Nat):Prop:=a∈R→lnk a b→b∈R
def ReaQ(ms:List Nat)(lnk:Nat→Nat→Prop)(R0 R:List Nat)(b:Bool)(i k:Nat):Prop:=
 ReaI ms R∧R0.length≤R.length∧(∀x∈R0,x∈R)∧((b=false∧R=R0∧(∀i' k',i'<i→k'<ms.length→clR lnk R (ms.getD i' 0) (ms.getD k' 0))∧∀k',k'<k→clR lnk R (ms.getD i 0) (ms.getD k' 0))∨(b=true∧R0.length<R.length))
section
variable {ms R R0:List Nat}{lnk:Nat→Nat→Prop}{b:Bool}{i k n r:Nat}{f:Nat→Nat}
theorem ReaQ.start(h:ReaI ms R):ReaQ ms lnk R R false 0 0:=⟨h,Nat.le_refl _,fun _ h=>h,.inl ⟨rfl,rfl,fun _ _ h=>absurd h (Nat.not_lt_zero _),fun _ h=>absurd h (Nat.not_lt_zero _)⟩⟩
theorem ReaQ.stay(h:ReaQ ms lnk R0 R b i k)(hc:clR lnk R (ms.getD i 0) (ms.getD k 0)):ReaQ ms lnk R0 R b i (k+1):=by
 obtain ⟨h1,h2,h3,h4|h4⟩:=h
 ·refine ⟨h1,h2,h3,.inl ⟨h4.1,h4.2.1,h4.2.2.1,fun k' hk=>?_⟩⟩
  by_cases e:k'=k
  ·rw[e];exact hc
  ·exact h4.2.2.2 k' (by omega)
 ·exact ⟨h1,h2,h3,.inr h4⟩
theorem ReaQ.change(h:ReaQ ms lnk R0 R b i k)(hk:k<ms.length)(hno:ms.getD k 0∉R):ReaQ ms lnk R0 (R++[ms.getD k 0]) true i (k+1):=by
 obtain ⟨⟨h1,h2⟩,h3,h4,_⟩:=h
 refine ⟨⟨?_,fun x hx=>?_⟩,?_,fun x hx=>List.mem_append_left _ (h4 x hx),.inr ⟨rfl,?_⟩⟩
 ·rw[List.nodup_append]
  refine ⟨h1,by simp,fun a ha b hb e=>?_⟩
  rw[List.mem_singleton.1 hb]at e
  exact hno (e▸ha)
 ·rcases List.mem_append.1 hx with hx|hx
  ·exact h2 x hx
  ·rw[List.mem_singleton.1 hx,List.getD_eq_getElem?_getD,List.getElem?_eq_getElem hk];exact List.getElem_mem _
 ·rw[List.length_append];omega
 ·rw[List.length_append,List.length_singleton];omega
theorem ReaQ.next(h:ReaQ ms lnk R0 R b i ms.length):ReaQ ms lnk R0 R b (i+1) 0:=by
 obtain ⟨h1,h2,h3,h4|h4⟩:=h
 ·refine ⟨h1,h2,h3,.inl ⟨h4.1,h4.2.1,fun i' k' hi hk=>?_,fun _ h=>absurd h (Nat.not_lt_zero _)⟩⟩
  by_cases e:i'=i
  ·rw[e];exact h4.2.2.2 k' hk
  ·exact h4.2.2.1 i' k' (by omega) hk
 ·exact ⟨h1,h2,h3,.inr h4⟩
theorem reach_all(hf:Lab n lnk f)(hr:r<n)(hfr:f r=r)(hms:ms=memU f n r)(h:ReaI ms R)(h0:r∈R)(hc:∀i k,i<ms.length→k<ms.length→clR lnk R (ms.getD i 0) (ms.getD k 0)):R.length=ms.length:=by
 have hat:∀x∈ms,∃i,i<ms.length∧ms.getD i 0=x:=fun x hx=>by
  obtain ⟨i,hi,e⟩:=List.getElem_of_mem hx
  exact ⟨i,hi,by rw[List.getD_eq_getElem?_getD,List.getElem?_eq_getElem hi];exact e⟩
 have hcl:∀x∈ms,∀y∈ms,x∈R→lnk x y→y∈R:=fun x hx y hy h1 h2=>by
  obtain ⟨i,hi,rfl⟩:=hat x hx
  obtain ⟨k,hk,rfl⟩:=hat y hy
  exact hc i k hi hk h1 h2
 have hin:∀x,f x=r→Conn lnk n r x→x∈R:=fun x hx hcn=>by
  clear hc hat
  induction hcn with
  | refl _=>exact h0
  | snoc h1 h2 h3 ih=>
   rename_i j k
   have hj:=h1.lt.2
   have e:=hf.of j k hj h3 h2
   have h4:=ih (by rw[e];exact hx)
   refine hcl j (by rw[hms];exact memU_in.2 ⟨hj,by rw[e];exact hx⟩) k (by rw[hms];exact memU_in.2 ⟨h3,hx⟩) h4 h2
 refine Nat.le_antisymm (nodup_sub h.nd h.sub) (nodup_sub (by rw[hms];exact List.Nodup.sublist List.filter_sublist List.nodup_range) fun x hx=>?_)
 rw[hms]at hx
 obtain ⟨h1,h2⟩:=memU_in.1 hx
 exact hin x h2 (hf.to r x hr h1 (hfr.trans h2.symm))
end
section
variable {M:Mem}{K:AV→Hp→Mem→Prop}
def chA(M:Mem)(x g U:Value)(d:Int)(i:Nat):St:={env:=[(9,.ext (.int .i64 (i:Int))),(8,.ext U),(6,.ext g),(5,.ext x),(1,.ext (.int .i64 d))],hp:=[],M:=M,kb:=19,fx:=[]}
def chB(M:Mem)(x g U:Value)(d:Int)(i k:Nat):St:={env:=[(10,.ext (.int .i64 (k:Int))),(9,.ext (.int .i64 (i:Int))),(8,.ext U),(6,.ext g),(5,.ext x),(1,.ext (.int .i64 d))],hp:=[],M:=M,kb:=19,fx:=[]}
def chC(M:Mem)(x g:Value)(d:Int)(i:Nat):St:={env:=[(11,.ext (.int .i64 (i:Int))),(6,.ext g),(5,.ext x),(1,.ext (.int .i64 d))],hp:=[],M:=M,kb:=19,fx:=[]}
def chD(M:Mem)(b:Nat)(x g m:Value)(d:Int)(i:Nat)(ag:Bool):St:={env:=[(14,.ext (.bool ag)),(13,.ext (.map (some b))),(12,.ext m),(11,.ext (.int .i64 (i:Int))),(6,.ext g),(5,.ext x),(1,.ext (.int .i64 d))],hp:=[],M:=M,kb:=19,fx:=[],fr:=[b]}
def chE(M:Mem)(b:Nat)(x g m:Value)(d:Int)(i w p:Nat)(ag:Bool):St:={env:=[(92,.ext (.int .i64 (p:Int))),(91,.ext (.int .i64 (w:Int))),(90,.ext m),(14,.ext (.bool ag)),(13,.ext (.map (some b))),(12,.ext m),(11,.ext (.int .i64 (i:Int))),(6,.ext g),(5,.ext x),(1,.ext (.int .i64 d))],hp:=[],M:=M,kb:=19,fx:=[],fr:=[b]}
def chF(M:Mem)(b:Nat)(x g m:Value)(d:Int)(i w p q a:Nat)(ag:Bool):St:={env:=[(98,.ext (.int .i64 (q:Int))),(97,.ext (.int .i64 (w:Int))),(96,.ext m),(16,.ext (.int .i64 (a:Int))),(92,.ext (.int .i64 (p:Int))),(91,.ext (.int .i64 (w:Int))),(90,.ext m),(14,.ext (.bool ag)),(13,.ext (.map (some b))),(12,.ext m),(11,.ext (.int .i64 (i:Int))),(6,.ext g),(5,.ext x),(1,.ext (.int .i64 d))],hp:=[],M:=M,kb:=19,fx:=[],fr:=[b]}
theorem chains27_ok(v0:Value)(l0:List Int)(d:Int)(hl:IsL M intV64 v0 l0)(hK:∀M',Mem.le M M'→K (.ext (.bool true)) [] M'):CallS Try.prog 5 [.ext v0,.ext (.int .i64 d)] [] M [] K:=by
 refine inlS (cs:=[]) Try.mixed Try.func5 rfl (by kernel_rfl) 19 rfl rfl ?_
 simp only[Try.f5]
 have vo:=hl.one
 (replace hb0:=true_and True);refine Go1.mk ?_;repeat' ((first|(with_reducible refine Go1.go ?_)|((with_reducible first|refine brv_mk ?_ ?_|refine gsplitD ?_ ?_|refine gsplitG ?_ ?_)<;>intro h<;>(try simp only[Bool.not_eq_true',Bool.not_eq_false']at h)<;>replace hb0:=h)|((with_reducible refine isCall (f:=15) ?_);refine callA ?_)|((with_reducible refine isCallS (f:=15) ?_);refine (failures_ok v0 l0 0 14 0 hl (by decide) (by decide) (by decide) (fun x X M1 p m1 hx hX hp hf=>Stop.mk ?_)))|(refine And.intro ?_ ?_;(try simp only[sxO]at *);omega)|fail)<;>(try simp (maxSteps:=1000000) only [hb0,vo,hasK_nil,↓hold_pre,awayP,runOps,regK,step1,newK,genR,appR,obl,buildR,Value.cells,closeK,keepH,outV,retK,ret1,retC,RetV,Option.getD,runD,stepD,afterK,undef,simprocAttr,sxB,↓sxD,sxE,sxTab]))
 have m1:Mem.le M M1:=m1
 have xo:=hx.one
 have xl:=hx.len
 have xs:=hx.sl
 obtain ⟨n,hn⟩:∃n,n=X.length:=⟨_,rfl⟩
 rw[←hn]at hX xl
 refine Stop.go ?_
 (replace hb0:=true_and True);refine Go1.mk ?_;repeat' ((first|(with_reducible refine Go1.go ?_)|((with_reducible first|refine brv_mk ?_ ?_|refine gsplitD ?_ ?_|refine gsplitG ?_ ?_)<;>intro h<;>(try simp only[Bool.not_eq_true',Bool.not_eq_false']at h)<;>replace hb0:=h)|(((with_reducible refine isCall (f:=17) ?_);refine callA_nil (by kernel_rfl) ?_;refine (fold_ok _ _ (Stop.mk ?_))))|(refine And.intro ?_ ?_;(try simp only[sxO]at *);omega)|fail)<;>(try simp (maxSteps:=1000000) only [hb0,tpH,vo,xo,xl,xs,hasK_nil,↓hold_pre,awayP,runOps,regK,step1,newK,genR,appR,obl,buildR,Value.cells,closeK,keepH,outV,retK,ret1,retC,RetV,Option.getD,runD,stepD,afterK,undef,simprocAttr,sxB,↓sxD,sxE,sxTab]))
 obtain ⟨q0,q1⟩:=foldI_bd1 d 4 (by decide) (by decide)
 obtain ⟨y,hy⟩:=Int.eq_ofNat_of_zero_le q0
 rw[hy]at q1 ⊢
 have wy:IntKind.i64.wrap (1+(y:Int))=((1+y:Nat):Int):=by rw[wrap_id (by omega) (by omega)];omega
 obtain ⟨dd,hdd⟩:∃dd:Int,dd=((1+y:Nat):Int):=⟨_,rfl⟩
 rw[←hdd]at wy
 have he:sgnE X dd=0:=sgnE_0 (fun f h=>(hf f h).1.noE (by decide)) (by omega) (by omega) (by omega)
 refine Stop.go ?_
 (replace hb0:=true_and True);refine Go1.mk ?_;repeat' ((first|(with_reducible refine Go1.go ?_)|((with_reducible first|refine brv_mk ?_ ?_|refine gsplitD ?_ ?_|refine gsplitG ?_ ?_)<;>intro h<;>(try simp only[Bool.not_eq_true',Bool.not_eq_false']at h)<;>replace hb0:=h)|(((with_reducible refine isCall (f:=16) ?_);refine callA_nil (by kernel_rfl) ?_;refine (dsplit_ok x X dd hx (fun f h=>(hf f h).2) he (fun g M2 f m2 lf gG=>Stop.mk ?_))))|(refine And.intro ?_ ?_;(try simp only[sxO]at *);omega)|fail)<;>(try simp (maxSteps:=1000000) only [hb0,wy,tpH,vo,xo,xl,xs,hasK_nil,↓hold_pre,awayP,runOps,regK,step1,newK,genR,appR,obl,buildR,Value.cells,closeK,keepH,outV,retK,ret1,retC,RetV,Option.getD,runD,stepD,afterK,undef,simprocAttr,sxB,↓sxD,sxE,sxTab]))
 have m2:Mem.le M1 M2:=m2
 obtain ⟨T,hT⟩:∃T,T=X.map faB:=⟨_,rfl⟩
 rw[←hT]at lf gG
 rw[←hn]at lf
 have hTl:T.length=n:=by rw[hT,List.length_map];exact hn.symm
 have hXo:∀f∈X,faOk M2 f:=fun f h=>(hf f h).2.le m2
 have hTok:∀s∈T,okB s.1 s.2:=fun s hs=>by
  rw[hT]at hs
  obtain ⟨f,h,rfl⟩:=List.mem_map.1 hs
  exact okB_fa (hXo f h)
 have okg:okO (grpO T f):=GrpO.ok (d:=dd) ⟨f,by rw[hTl];exact lf,rfl⟩ hTok (by omega)
 have hmg:∀o∈grpO T f,∀j∈o.2,j<n:=fun o ho j hj=>by have:=mem_grpO o ho j hj;omega
 have go:g.oneCell'=true:=by obtain ⟨_,h,_⟩:=gG;exact h.one
 refine Stop.go ?_
 (replace hb0:=true_and True);refine Go1.mk ?_;repeat' ((first|(with_reducible refine Go1.go ?_)|((with_reducible first|refine brv_mk ?_ ?_|refine gsplitD ?_ ?_|refine gsplitG ?_ ?_)<;>intro h<;>(try simp only[Bool.not_eq_true',Bool.not_eq_false']at h)<;>replace hb0:=h)|(((with_reducible refine isCall (f:=19) ?_);refine callA_nil (by kernel_rfl) ?_;refine (together_ok g (grpO T f) n (by omega) gG okg hmg (fun U M3 m3 hU=>Stop.mk ?_))))|(refine And.intro ?_ ?_;(try simp only[sxO]at *);omega)|fail)<;>(try simp (maxSteps:=1000000) only [hb0,tpH,vo,xo,xl,xs,go,hasK_nil,↓hold_pre,awayP,runOps,regK,step1,newK,genR,appR,obl,buildR,Value.cells,closeK,keepH,outV,retK,ret1,retC,RetV,Option.getD,runD,stepD,afterK,undef,simprocAttr,sxB,↓sxD,sxE,sxTab]))
 have m3:Mem.le M2 M3:=m3
 have Uo:U.oneCell'=true:=by obtain ⟨us,h⟩:=hU;exact one_sl h.out.sl
 have hx3:=(hx.le m2).le m3
 have hXo3:∀f∈X,faOk M3 f:=fun f h=>(hXo f h).le m3
 have hsK:∀j (h:j<X.length),sgK T dd j=keysB (faB X[j]).1 (faB X[j]).2 dd:=fun j h=>by
  rw[sgK_at (show j<T.length by omega)]
  have:T[j]'(by omega)=faB X[j]:=by simp only[hT,List.getElem_map]
  rw[this]
 have hXe:∀j (h:j<X.length),faE X[j]=0:=fun j h=>(hf _ (List.getElem_mem h)).1.noE (by decide)
 have hXat:∀{M':Mem} (h:Mem.le M3 M') j (hj:j<X.length),nilS x=false∧lookM Try.prog 34 M' (elemP x 5 j)=some (faV X[j].1 X[j].2.1 X[j].2.2.1 X[j].2.2.2.1 X[j].2.2.2.2.1):=fun h j hj=>⟨(hx3.le h).nn hj,(hx3.le h).at (P:=Try.prog) (T:=34) (fun _=>rfl) tk34 tz34 hj⟩
 have hlk:∀i k (hi:i<X.length) (hk:k<X.length),lkB (keysB (faB X[i]).1 (faB X[i]).2 dd) (keysB (faB X[k]).1 (faB X[k]).2 dd)=true↔lnkR T dd i k:=fun i k hi hk=>by
  rw[←hsK i hi,←hsK k hk];exact lkB_iff
 refine Stop.go ?_
 (replace hb0:=true_and True);refine Go1.mk ?_;repeat' ((first|(with_reducible refine Go1.go ?_)|((with_reducible first|refine brv_mk ?_ ?_|refine gsplitD ?_ ?_|refine gsplitG ?_ ?_)<;>intro h<;>(try simp only[Bool.not_eq_true',Bool.not_eq_false']at h)<;>replace hb0:=h)|(refine And.intro ?_ ?_;(try simp only[sxO]at *);omega)|fail)<;>(try simp (maxSteps:=1000000) only [hb0,vo,xo,xl,xs,go,Uo,hasK_nil,↓hold_pre,awayP,runOps,regK,step1,newK,genR,appR,obl,buildR,Value.cells,closeK,keepH,outV,retK,ret1,retC,RetV,Option.getD,runD,stepD,afterK,undef,simprocAttr,sxB,↓sxD,sxE,sxTab]))
 refine ⟨fun k z=>∃M' i,k=n-i∧i≤n∧Mem.le M3 M'∧z=chA M' x g U dd i,⟨n,chA M3 x g U dd 0,le_sub ⟨rfl,rfl,rfl,rfl,rfl,trivial⟩ trivial rfl rfl rfl (keepLt_of rfl),M3,0,rfl,Nat.zero_le _,Mem.le.refl _,rfl⟩,?_⟩
 rintro k z ⟨M4,i,rfl,hi,m4,rfl⟩
 by_cases hin:i<n
 ·have c1:decide ((i:Int)<(n:Int))=true:=by rw[decide_eq_true_eq];omega
  have z2:(0:Int)≤(i:Int):=by omega
  have z3:(i:Int)<(n:Int):=by omega
  have wi:IntKind.i64.wrap ((i:Int)+1)=((i+1:Nat):Int):=by rw[wrap_id (by omega) (by omega)];omega
  (replace hb0:=true_and True);refine Go1.mk ?_;repeat' ((first|(with_reducible refine Go1.go ?_)|((with_reducible first|refine brv_mk ?_ ?_|refine gsplitD ?_ ?_|refine gsplitG ?_ ?_)<;>intro h<;>(try simp only[Bool.not_eq_true',Bool.not_eq_false']at h)<;>replace hb0:=h)|(refine And.intro ?_ ?_;(try simp only[sxO]at *);omega)|fail)<;>(try simp (maxSteps:=1000000) only [hb0,chA,c1,xo,xl,xs,go,Uo,hasK_nil,↓hold_pre,awayP,runOps,regK,step1,newK,genR,appR,obl,buildR,Value.cells,closeK,keepH,outV,retK,ret1,retC,RetV,Option.getD,runD,stepD,afterK,undef,simprocAttr,sxB,↓sxD,sxE,sxTab]))
  refine ⟨fun q z=>∃M' k,q=n-k∧k≤n∧Mem.le M3 M'∧z=chB M' x g U dd i k,⟨n,chB M4 x g U dd i 0,le_sub ⟨rfl,rfl,rfl,rfl,rfl,rfl,trivial⟩ trivial rfl rfl rfl (keepLt_of rfl),M4,0,rfl,Nat.zero_le _,m4,rfl⟩,?_⟩
  clear m4
  rintro q z ⟨M5,k,rfl,hk,m5,rfl⟩
  by_cases hkn:k<n
  case neg=>
   have c2:decide ((k:Int)<(n:Int))=false:=by rw[decide_eq_false_iff_not];omega
   (replace hb0:=true_and True);refine Go1.mk ?_;repeat' ((first|(with_reducible refine Go1.go ?_)|((with_reducible first|refine brv_mk ?_ ?_|refine gsplitD ?_ ?_|refine gsplitG ?_ ?_)<;>intro h<;>(try simp only[Bool.not_eq_true',Bool.not_eq_false']at h)<;>replace hb0:=h)|(refine And.intro ?_ ?_;(try simp only[sxO]at *);omega)|fail)<;>(try simp (maxSteps:=1000000) only [hb0,chB,c2,wi,xo,xl,xs,go,Uo,hasK_nil,↓hold_pre,awayP,runOps,regK,step1,newK,genR,appR,obl,buildR,Value.cells,closeK,keepH,outV,retK,ret1,retC,RetV,Option.getD,runD,stepD,afterK,undef,simprocAttr,sxB,↓sxD,sxE,sxTab]))
   exact ⟨n-(i+1),chA M5 x g U dd (i+1),by omega,le_sub ⟨rfl,rfl,rfl,rfl,rfl,trivial⟩ trivial rfl rfl rfl (keepLt_of rfl),M5,i+1,rfl,by omega,m5,rfl⟩
  have c2:decide ((k:Int)<(n:Int))=true:=by rw[decide_eq_true_eq];omega
  have y2:(0:Int)≤(k:Int):=by omega
  have y3:(k:Int)<(n:Int):=by omega
  have wk:IntKind.i64.wrap ((k:Int)+1)=((k+1:Nat):Int):=by rw[wrap_id (by omega) (by omega)];omega
  have hiX:i<X.length:=by omega
  have hkX:k<X.length:=by omega
  obtain ⟨xn,xi⟩:=hXat m5 i hiX
  obtain ⟨_,xk⟩:=hXat m5 k hkX
  have oi:=(hXo3 _ (List.getElem_mem hiX)).le m5
  have ok':=(hXo3 _ (List.getElem_mem hkX)).le m5
  have oi1:=oi.1.one
  have ok1:=ok'.1.one
  have hl2:=hlk i k hiX hkX
  have ei:=hXe i hiX
  have ek:=hXe k hkX
  unfold faV at xi xk
  (replace hb0:=true_and True);refine Go1.mk ?_;repeat' ((first|(with_reducible refine Go1.go ?_)|((with_reducible first|refine brv_mk ?_ ?_|refine gsplitD ?_ ?_|refine gsplitG ?_ ?_)<;>intro h<;>(try simp only[Bool.not_eq_true',Bool.not_eq_false']at h)<;>replace hb0:=h)|(((with_reducible refine isCall0 (f:=20) ?_);refine callA0_nil (by kernel_rfl) ?_;refine (plinked_ok X[i] X[k] dd ei ek oi ok' (fun M6 m6=>Stop.mk ?_))))|((with_reducible refine isDraw [some 50,some 51,some 52,some 53,some 54,some 55,some 56,some 57,some 58,some 59,some 60,some 61,some 62,some 63,some 64,some 65,some 66,some 67,some 68,some 69] (by decide) ?_);refine draw_rule [(0,[]),(1,[]),(2,[]),(3,[]),(4,[3]),(5,[3]),(6,[3]),(7,[3]),(8,[3,7]),(9,[]),(10,[]),(11,[]),(12,[]),(13,[]),(14,[]),(15,[14]),(16,[]),(17,[]),(18,[]),(19,[])] [[],[],[0,1],[0,1,2],[],[],[4,5],[4,5,6],[],[0,1,2,3,4,5,6,7,8],[0,1,2,3,4,5,6,7,8,9],[0,1,2,3,4,5,6,7,8,9,10],[0,1,2,3,4,5,6,7,8,9,10],[0,1,2,3,4,5,6,7,8,9,10,11,12],[0,1,2,3,4,5,6,7,8,9,10,11,12,13],[0,1,2,3,4,5,6,7,8,9,10],[0,1,2,3,4,5,6,7,8,9,10,11,12,13,14,15],[0,1,2,3,4,5,6,7,8,9,10,11,12,13,14,15,16],[0,1,2,3,4,5,6,7,8,9,10,11,12,13,14,15,16,17],[0,1,2,3,4,5,6,7,8,9,10,11,12,13,14,15,16,17,18]] [50,51,52,53,54,55,56,57,58,61,62,63,64,65] [] (by kernel_rfl) (by kernel_rfl) (by kernel_rfl) (by kernel_rfl) (by exact trivial) ?_)|(refine And.intro ?_ ?_;(try simp only[sxO]at *);omega)|fail)<;>(try simp (maxSteps:=1000000) only [hb0,chB,faV,c2,z2,z3,y2,y3,xn,xi,xk,oi1,ok1,xo,xl,xs,go,Uo,hasK_nil,↓hold_pre,awayP,runOps,regK,step1,newK,genR,appR,obl,buildR,Value.cells,closeK,keepH,outV,retK,ret1,retC,RetV,Option.getD,runD,stepD,afterK,undef,simprocAttr,sxB,↓sxD,sxE,sxTab]))
  have m6:Mem.le M5 M6:=m6
  cases hll:lkB (keysB (faB X[i]).1 (faB X[i]).2 dd) (keysB (faB X[k]).1 (faB X[k]).2 dd) with
  | false=>
   refine Stop.go ?_
   (replace hb0:=true_and True);refine Go1.mk ?_;repeat' ((first|(with_reducible refine Go1.go ?_)|((with_reducible first|refine brv_mk ?_ ?_|refine gsplitD ?_ ?_|refine gsplitG ?_ ?_)<;>intro h<;>(try simp only[Bool.not_eq_true',Bool.not_eq_false']at h)<;>replace hb0:=h)|(refine And.intro ?_ ?_;(try simp only[sxO]at *);omega)|fail)<;>(try simp (maxSteps:=1000000) only [hb0,hll,wk,xo,xl,xs,go,Uo,hasK_nil,↓hold_pre,awayP,runOps,regK,step1,newK,genR,appR,obl,buildR,Value.cells,closeK,keepH,outV,retK,ret1,retC,RetV,Option.getD,runD,stepD,afterK,undef,simprocAttr,sxB,↓sxD,sxE,sxTab]))
   exact ⟨n-(k+1),chB M6 x g U dd i (k+1),by omega,le_sub ⟨rfl,rfl,rfl,rfl,rfl,rfl,trivial⟩ trivial rfl rfl rfl (keepLt_of rfl),M6,k+1,rfl,by omega,m5.trans m6,rfl⟩
  | true=>
   have hfik:=lf.of i k hin hkn (hl2.1 hll)
   obtain ⟨u1,u2,u3,_,r1,w1,w2,w3,w4,w5,w6⟩:=mat_at (P:=Try.prog) (T1:=48) (T2:=4) (hU.le (m5.trans m6)) tk48 tz48 tk4 tz4 hin hkn
   rw[tog_lab (R:=lnkR T dd) (by rw[hTl];exact lf) (by omega) (by omega),decide_eq_true hfik]at w6
   refine Stop.go ?_
   (replace hb0:=true_and True);refine Go1.mk ?_;repeat' ((first|(with_reducible refine Go1.go ?_)|((with_reducible first|refine brv_mk ?_ ?_|refine gsplitD ?_ ?_|refine gsplitG ?_ ?_)<;>intro h<;>(try simp only[Bool.not_eq_true',Bool.not_eq_false']at h)<;>replace hb0:=h)|(refine And.intro ?_ ?_;(try simp only[sxO]at *);omega)|fail)<;>(try simp (maxSteps:=1000000) only [hb0,hll,wk,z2,z3,y2,y3,u1,u2,u3,w1,w2,w3,w4,w5,w6,xo,xl,xs,go,Uo,hasK_nil,↓hold_pre,awayP,runOps,regK,step1,newK,genR,appR,obl,buildR,Value.cells,closeK,keepH,outV,retK,ret1,retC,RetV,Option.getD,runD,stepD,afterK,undef,simprocAttr,sxB,↓sxD,sxE,sxTab]))
   exact ⟨n-(k+1),chB M6 x g U dd i (k+1),by omega,le_sub ⟨rfl,rfl,rfl,rfl,rfl,rfl,trivial⟩ trivial rfl rfl rfl (keepLt_of rfl),M6,k+1,rfl,by omega,m5.trans m6,rfl⟩
 have c1:decide ((i:Int)<(n:Int))=false:=by rw[decide_eq_false_iff_not];omega
 (replace hb0:=true_and True);refine Go1.mk ?_;repeat' ((first|(with_reducible refine Go1.go ?_)|((with_reducible first|refine brv_mk ?_ ?_|refine gsplitD ?_ ?_|refine gsplitG ?_ ?_)<;>intro h<;>(try simp only[Bool.not_eq_true',Bool.not_eq_false']at h)<;>replace hb0:=h)|(refine And.intro ?_ ?_;(try simp only[sxO]at *);omega)|fail)<;>(try simp (maxSteps:=1000000) only [hb0,chA,c1,xo,xl,xs,go,hasK_nil,↓hold_pre,awayP,runOps,regK,step1,newK,genR,appR,obl,buildR,Value.cells,closeK,keepH,outV,retK,ret1,retC,RetV,Option.getD,runD,stepD,afterK,undef,simprocAttr,sxB,↓sxD,sxE,sxTab]))
 clear c1 hin hi
 obtain ⟨L,g1,g2,g3⟩:=gG
 obtain ⟨rs,hrs⟩:∃rs,rs=rootsU f n:=⟨_,rfl⟩
 have hL:L.length=rs.length:=by
  have:=congrArg List.length g3
  rw[List.length_map,grpO_len,hTl,←hrs]at this;exact this
 have hLat:∀i (h:i<L.length),∃h2:i<rs.length,L[i].l=memU f n (rs[i]'h2):=fun i h=>by
  have h2:i<rs.length:=by omega
  refine ⟨h2,?_⟩
  have e:(L.map GX.o)[i]'(by rw[List.length_map];exact h)=(grpO T f)[i]'(by rw[grpO_len,hTl,←hrs];exact h2):=by simp only[g3]
  rw[List.getElem_map]at e
  have e2:=congrArg Prod.snd (e.trans (grpO_at (by rw[hTl,←hrs];exact h2)))
  simp only[hTl,←hrs]at e2
  exact e2
 have hrl:rs.length≤n:=by
  have h1:=List.length_filter_le (fun j=>f j==j) (List.range n)
  rw[List.length_range]at h1
  rw[hrs];exact h1
 have g1:=g1.le m3
 have gl:=g1.len
 have gs:=g1.sl
 have hib:intBool Try.prog 56=true:=by kernel_rfl
 have htm:Try.prog.underlying 56=some (.map 3 4):=by kernel_rfl
 have kI:=Maps.int_keyed Try.underlying3
 refine ⟨fun k z=>∃M' i,k=L.length-i∧i≤L.length∧Mem.le M3 M'∧z=chC M' x g dd i,⟨L.length,chC M4 x g dd 0,le_sub ⟨rfl,rfl,rfl,rfl,trivial⟩ trivial rfl rfl rfl (keepLt_of rfl),M4,0,rfl,Nat.zero_le _,m4,rfl⟩,?_⟩
 clear m4
 rintro k z ⟨M4,i,rfl,hi,m4,rfl⟩
 by_cases hlt:i<L.length
 case neg=>
  have c1:decide ((i:Int)<(L.length:Int))=false:=by rw[decide_eq_false_iff_not];omega
  (replace hb0:=true_and True);refine Go1.mk ?_;repeat' ((first|(with_reducible refine Go1.go ?_)|((with_reducible first|refine brv_mk ?_ ?_|refine gsplitD ?_ ?_|refine gsplitG ?_ ?_)<;>intro h<;>(try simp only[Bool.not_eq_true',Bool.not_eq_false']at h)<;>replace hb0:=h)|(((with_reducible refine isCall (f:=9) ?_);refine callA_nil (by kernel_rfl) ?_;refine (known27_ok (fun M5 m5=>Stop.mk ?_))))|(refine And.intro ?_ ?_;(try simp only[sxO]at *);omega)|fail)<;>(try simp (maxSteps:=1000000) only [hb0,chC,c1,go,gl,gs,hasK_nil,↓hold_pre,awayP,runOps,regK,step1,newK,genR,appR,obl,buildR,Value.cells,closeK,keepH,outV,retK,ret1,retC,RetV,Option.getD,runD,stepD,afterK,undef,simprocAttr,sxB,↓sxD,sxE,sxTab]))
  refine Stop.go ?_
  (replace hb0:=true_and True);refine Go1.mk ?_;repeat' ((first|(with_reducible refine Go1.go ?_)|((with_reducible first|refine brv_mk ?_ ?_|refine gsplitD ?_ ?_|refine gsplitG ?_ ?_)<;>intro h<;>(try simp only[Bool.not_eq_true',Bool.not_eq_false']at h)<;>replace hb0:=h)|(refine And.intro ?_ ?_;(try simp only[sxO]at *);omega)|fail)<;>(try simp (maxSteps:=1000000) only [hb0,hasK_nil,↓hold_pre,awayP,runOps,regK,step1,newK,genR,appR,obl,buildR,Value.cells,closeK,keepH,outV,retK,ret1,retC,RetV,Option.getD,runD,stepD,afterK,undef,simprocAttr,sxB,↓sxD,sxE,sxTab]))
  exact hK _ (m1.trans (m2.trans (m3.trans (m4.trans m5))))
 obtain ⟨hir,hLl⟩:=hLat i hlt
 have hr12:rs[i]<n∧f rs[i]=rs[i]:=by
  have h2:rs[i]∈rootsU f n:=by rw[←hrs];exact List.getElem_mem hir
  exact rootsU_in.1 h2
 obtain ⟨hr1,hr2⟩:=hr12
 obtain ⟨tl,htl⟩:=memU_root hr1 hr2 lf.le
 obtain ⟨ms,hms⟩:∃ms,ms=memU f n rs[i]:=⟨_,rfl⟩
 rw[←hms]at htl hLl
 have hml:ms.length≤n:=by
  have h1:=List.length_filter_le (fun j=>f j==rs[i]) (List.range n)
  rw[List.length_range]at h1
  rw[hms];exact h1
 have hmem:∀j∈ms,j<n:=fun j hj=>by rw[hms]at hj;exact (memU_in.1 hj).1
 have c1:decide ((i:Int)<(L.length:Int))=true:=by rw[decide_eq_true_eq];omega
 have z2:(0:Int)≤(i:Int):=by omega
 have z3:(i:Int)<(L.length:Int):=by omega
 have wi:IntKind.i64.wrap ((i:Int)+1)=((i+1:Nat):Int):=by rw[wrap_id (by omega) (by omega)];omega
 have g14:=g1.le m4
 have gn:=g14.nn hlt
 have gp:=g14.pt hlt
 have gat:lookM Try.prog 25 M4 (addP (elemP g 3 i) 2)=some L[i].u:=g14.atF (P:=Try.prog) (T:=25) (fun _=>rfl) tk25 tz25 hlt (o:=2) (v:=L[i].u) rfl
 have k2:=((g2 _ (List.getElem_mem hlt)).2.le m3).le m4
 rw[hLl]at k2
 generalize L[i].u=m at *
 have mo:=k2.one
 have ml:=k2.len
 have msl:=k2.sl
 have hm0:0<ms.length:=by rw[htl];simp
 have e0:ms[0]=rs[i]:=by simp only[htl];rfl
 have mn:=k2.nn hm0
 have p0:lookM Try.prog 3 M4 (elemP m 1 0)=some (natV rs[i]):=by
  have h:=k2.at (P:=Try.prog) (T:=3) tk3 tz3 hm0
  rw[e0]at h;exact h
 have c3:decide ((ms.length:Int)=0)=false:=by rw[decide_eq_false_iff_not];omega
 have c5:(0:Int)<(ms.length:Int):=by omega
 have hrm:rs[i]∈ms:=by rw[htl];exact List.mem_cons_self
 clear hLl
 generalize rs[i]=r at *
 (replace hb0:=true_and True);refine Go1.mk ?_;repeat' ((first|(with_reducible refine Go1.go ?_)|((with_reducible first|refine brv_mk ?_ ?_|refine gsplitD ?_ ?_|refine gsplitG ?_ ?_)<;>intro h<;>(try simp only[Bool.not_eq_true',Bool.not_eq_false']at h)<;>replace hb0:=h)|(refine And.intro ?_ ?_;(try simp only[sxO]at *);omega)|fail)<;>(try simp (maxSteps:=1000000) only [hb0,chC,c1,c3,c5,z2,z3,gn,gp,gat,mo,ml,msl,mn,go,gl,gs,xo,hasK_nil,↓hold_pre,awayP,runOps,regK,step1,newK,genR,appR,obl,buildR,Value.cells,closeK,keepH,outV,retK,ret1,retC,RetV,Option.getD,runD,stepD,afterK,undef,simprocAttr,sxB,↓sxD,sxE,sxTab]))
 refine ask_makeMap rfl fun b ob hob hMb=>?_
 have hMb:M4 b=none:=hMb
 have hle5:Mem.le M4 (updM M4 b ob):=le_off (Mem.le.refl _) hMb fun x hx=>updM_ne hx
 have hself:updM M4 b ob b=some ob:=updM_self _ _ _
 have hI0:MapV ob (encB []):=hob.v0
 have p05:=lookM_le hle5 p0
 generalize updM M4 b ob=M5 at hle5 hself p05 ⊢
 have hkr:=Maps.keyOf_int_mk (P:=Try.prog) Try.underlying3 (a:=((r:Nat):Int)) (wf64 (by omega) (by omega))
 (replace hb0:=true_and True);refine Go1.mk ?_;repeat' ((first|(with_reducible refine Go1.go ?_)|((with_reducible first|refine brv_mk ?_ ?_|refine gsplitD ?_ ?_|refine gsplitG ?_ ?_)<;>intro h<;>(try simp only[Bool.not_eq_true',Bool.not_eq_false']at h)<;>replace hb0:=h)|(refine And.intro ?_ ?_;(try simp only[sxO]at *);omega)|fail)<;>(try simp (maxSteps:=1000000) only [hb0,St.put,natV,p05,c5,mn,mo,ml,msl,go,xo,hasK_nil,↓hold_pre,awayP,runOps,regK,step1,newK,genR,appR,obl,buildR,Value.cells,closeK,keepH,outV,retK,ret1,retC,RetV,Option.getD,runD,stepD,afterK,undef,simprocAttr,sxB,↓sxD,sxE,sxTab]))
 refine ask_insertV (b:=b) (key:=.int .i64 ((r:Nat):Int)) (v:=.bool true) rfl kI htm rfl rfl rfl (by exact List.mem_cons_self) hself hI0 (encB_key Try.underlying3 (fun j hj=>by cases hj)) hkr (encB_new (by simp)) (fun ob' hob'=>?_)
 have hI1:MapV ob' (encB [r]):=hob'
 have hle6:Mem.le M4 (updM M5 b ob'):=le_off hle5 hMb fun x hx=>updM_ne hx
 have hself6:updM M5 b ob' b=some ob':=updM_self _ _ _
 generalize updM M5 b ob'=M6 at hle6 hself6 ⊢
 (replace hb0:=true_and True);refine Go1.mk ?_;repeat' ((first|(with_reducible refine Go1.go ?_)|((with_reducible first|refine brv_mk ?_ ?_|refine gsplitD ?_ ?_|refine gsplitG ?_ ?_)<;>intro h<;>(try simp only[Bool.not_eq_true',Bool.not_eq_false']at h)<;>replace hb0:=h)|(refine And.intro ?_ ?_;(try simp only[sxO]at *);omega)|fail)<;>(try simp (maxSteps:=1000000) only [hb0,St.put,c5,mn,mo,ml,msl,go,xo,hasK_nil,↓hold_pre,awayP,runOps,regK,step1,newK,genR,appR,obl,buildR,Value.cells,closeK,keepH,outV,retK,ret1,retC,RetV,Option.getD,runD,stepD,afterK,undef,simprocAttr,sxB,↓sxD,sxE,sxTab]))
 refine ⟨fun k z=>∃M' ob R ag,k=2*(ms.length-R.length)+(if ag=true then 1 else 0)∧Mem.le M4 M'∧M' b=some ob∧MapV ob (encB R)∧ReaI ms R∧r∈R∧(ag=false→∀i k,i<ms.length→k<ms.length→clR (lnkR T dd) R (ms.getD i 0) (ms.getD k 0))∧z=chD M' b x g m dd i ag,⟨_,chD M6 b x g m dd i true,le_sub ⟨rfl,rfl,rfl,rfl,rfl,rfl,rfl,trivial⟩ trivial rfl rfl rfl (keepLt_of rfl),M6,ob',[r],true,rfl,hle6,hself6,hI1,⟨List.nodup_cons.2 ⟨by simp,List.nodup_nil⟩,fun x hx=>by rw[List.mem_singleton.1 hx];exact hrm⟩,List.mem_singleton.2 rfl,(fun h=>by cases h),rfl⟩,?_⟩
 clear hle5 hself hI0 p05 hob hob' hI1 hle6 hself6 hkr M5 M6 ob ob'
 rintro k z ⟨M5,ob,R0,ag,rfl,m5,hb5,hI5,hR,hrR,hcl,rfl⟩
 have hRn:∀j∈R0,j<1000000:=fun j hj=>by have:=hmem j (hR.sub j hj);omega
 cases ag with
 | false=>
  have hall:=reach_all lf hr1 hr2 hms hR hrR (hcl rfl)
  (replace hb0:=true_and True);refine Go1.mk ?_;repeat' ((first|(with_reducible refine Go1.go ?_)|((with_reducible first|refine brv_mk ?_ ?_|refine gsplitD ?_ ?_|refine gsplitG ?_ ?_)<;>intro h<;>(try simp only[Bool.not_eq_true',Bool.not_eq_false']at h)<;>replace hb0:=h)|(refine And.intro ?_ ?_;(try simp only[sxO]at *);omega)|fail)<;>(try simp (maxSteps:=1000000) only [hb0,chD,mo,ml,msl,go,xo,hasK_nil,↓hold_pre,awayP,runOps,regK,step1,newK,genR,appR,obl,buildR,Value.cells,closeK,keepH,outV,retK,ret1,retC,RetV,Option.getD,runD,stepD,afterK,undef,simprocAttr,sxB,↓sxD,sxE,sxTab]))
  refine ask_lenV (b:=b) (cl:={callee:=.builtin .len,args:=_,argTypes:=_}) rfl rfl rfl rfl htm rfl hb5 hI5 ?_
  have e:(encB R0).length=ms.length:=by unfold encB;rw[List.length_map];exact hall
  rw[e]
  (replace hb0:=true_and True);refine Go1.mk ?_;repeat' ((first|(with_reducible refine Go1.go ?_)|((with_reducible first|refine brv_mk ?_ ?_|refine gsplitD ?_ ?_|refine gsplitG ?_ ?_)<;>intro h<;>(try simp only[Bool.not_eq_true',Bool.not_eq_false']at h)<;>replace hb0:=h)|(refine And.intro ?_ ?_;(try simp only[sxO]at *);omega)|fail)<;>(try simp (maxSteps:=1000000) only [hb0,St.put,wi,mo,ml,msl,go,xo,hasK_nil,↓hold_pre,awayP,runOps,regK,step1,newK,genR,appR,obl,buildR,Value.cells,closeK,keepH,outV,retK,ret1,retC,RetV,Option.getD,runD,stepD,afterK,undef,simprocAttr,sxB,↓sxD,sxE,sxTab]))
  exact ⟨L.length-(i+1),chC M5 x g dd (i+1),by omega,le_sub ⟨rfl,rfl,rfl,rfl,trivial⟩ trivial rfl rfl rfl (keepLt_of rfl),M5,i+1,rfl,by omega,m4.trans m5,rfl⟩
 | true=>
  clear hcl
  (replace hb0:=true_and True);refine Go1.mk ?_;repeat' ((first|(with_reducible refine Go1.go ?_)|((with_reducible first|refine brv_mk ?_ ?_|refine gsplitD ?_ ?_|refine gsplitG ?_ ?_)<;>intro h<;>(try simp only[Bool.not_eq_true',Bool.not_eq_false']at h)<;>replace hb0:=h)|(refine And.intro ?_ ?_;(try simp only[sxO]at *);omega)|fail)<;>(try simp (maxSteps:=1000000) only [hb0,chD,mo,ml,msl,go,xo,hasK_nil,↓hold_pre,awayP,runOps,regK,step1,newK,genR,appR,obl,buildR,Value.cells,closeK,keepH,outV,retK,ret1,retC,RetV,Option.getD,runD,stepD,afterK,undef,simprocAttr,sxB,↓sxD,sxE,sxTab]))
  refine ⟨fun k z=>∃M' ob R ag p,k=ms.length-p∧p≤ms.length∧Mem.le M4 M'∧M' b=some ob∧MapV ob (encB R)∧ReaQ ms (lnkR T dd) R0 R ag p 0∧z=chE M' b x g m dd i ms.length p ag,⟨ms.length,chE M5 b x g m dd i ms.length 0 false,le_sub ⟨rfl,rfl,rfl,rfl,rfl,rfl,rfl,rfl,rfl,rfl,trivial⟩ trivial rfl rfl rfl (keepLt_of rfl),M5,ob,R0,false,0,rfl,Nat.zero_le _,m5,hb5,hI5,.start hR,rfl⟩,?_⟩
  clear m5 hb5 hI5 M5 ob
  rintro k z ⟨M5,ob,R,ag,p,rfl,hp,m5,hb5,hI5,hQ,rfl⟩
  by_cases hpt:p<ms.length
  case neg=>
   obtain rfl:p=ms.length:=by omega
   have c6:decide ((ms.length:Int)<(ms.length:Int))=false:=by simp
   (replace hb0:=true_and True);refine Go1.mk ?_;repeat' ((first|(with_reducible refine Go1.go ?_)|((with_reducible first|refine brv_mk ?_ ?_|refine gsplitD ?_ ?_|refine gsplitG ?_ ?_)<;>intro h<;>(try simp only[Bool.not_eq_true',Bool.not_eq_false']at h)<;>replace hb0:=h)|(refine And.intro ?_ ?_;(try simp only[sxO]at *);omega)|fail)<;>(try simp (maxSteps:=1000000) only [hb0,chE,c6,mo,ml,msl,go,xo,hasK_nil,↓hold_pre,awayP,runOps,regK,step1,newK,genR,appR,obl,buildR,Value.cells,closeK,keepH,outV,retK,ret1,retC,RetV,Option.getD,runD,stepD,afterK,undef,simprocAttr,sxB,↓sxD,sxE,sxTab]))
   obtain ⟨a1,a2,a3,a4|a4⟩:=hQ
   ·obtain ⟨rfl,rfl,a5,_⟩:=a4
    exact ⟨_,chD M5 b x g m dd i false,by simp,le_sub ⟨rfl,rfl,rfl,rfl,rfl,rfl,rfl,trivial⟩ trivial rfl rfl rfl (keepLt_of rfl),M5,ob,R,false,rfl,m5,hb5,hI5,a1,hrR,(fun _ i k hi hk=>a5 i k hi hk),rfl⟩
   ·obtain ⟨rfl,a5⟩:=a4
    have hRl:R.length≤ms.length:=nodup_sub a1.nd a1.sub
    exact ⟨_,chD M5 b x g m dd i true,by simp;omega,le_sub ⟨rfl,rfl,rfl,rfl,rfl,rfl,rfl,trivial⟩ trivial rfl rfl rfl (keepLt_of rfl),M5,ob,R,true,rfl,m5,hb5,hI5,a1,a3 r hrR,(fun h=>by cases h),rfl⟩
  have c6:decide ((p:Int)<(ms.length:Int))=true:=by rw[decide_eq_true_eq];omega
  have v2:(0:Int)≤(p:Int):=by omega
  have v3:(p:Int)<(ms.length:Int):=by omega
  have wp:IntKind.i64.wrap ((p:Int)+1)=((p+1:Nat):Int):=by rw[wrap_id (by omega) (by omega)];omega
  have pa:=(k2.le m5).at (P:=Try.prog) (T:=3) tk3 tz3 hpt
  have hga:ms.getD p 0=ms[p]:=by rw[List.getD_eq_getElem?_getD,List.getElem?_eq_getElem hpt];rfl
  have han:=hmem _ (List.getElem_mem hpt)
  rw[←hga]at pa han
  obtain ⟨a,hav⟩:∃a,a=ms.getD p 0:=⟨_,rfl⟩
  rw[←hav]at pa han
  (replace hb0:=true_and True);refine Go1.mk ?_;repeat' ((first|(with_reducible refine Go1.go ?_)|((with_reducible first|refine brv_mk ?_ ?_|refine gsplitD ?_ ?_|refine gsplitG ?_ ?_)<;>intro h<;>(try simp only[Bool.not_eq_true',Bool.not_eq_false']at h)<;>replace hb0:=h)|(refine And.intro ?_ ?_;(try simp only[sxO]at *);omega)|fail)<;>(try simp (maxSteps:=1000000) only [hb0,chE,natV,c6,v2,v3,pa,mn,mo,ml,msl,go,xo,hasK_nil,↓hold_pre,awayP,runOps,regK,step1,newK,genR,appR,obl,buildR,Value.cells,closeK,keepH,outV,retK,ret1,retC,RetV,Option.getD,runD,stepD,afterK,undef,simprocAttr,sxB,↓sxD,sxE,sxTab]))
  refine ⟨fun k z=>∃M' ob R ag q,k=ms.length-q∧q≤ms.length∧Mem.le M4 M'∧M' b=some ob∧MapV ob (encB R)∧ReaQ ms (lnkR T dd) R0 R ag p q∧z=chF M' b x g m dd i ms.length p q a ag,⟨ms.length,chF M5 b x g m dd i ms.length p 0 a ag,le_sub ⟨rfl,rfl,rfl,rfl,rfl,rfl,rfl,rfl,rfl,rfl,rfl,rfl,rfl,rfl,trivial⟩ trivial rfl rfl rfl (keepLt_of rfl),M5,ob,R,ag,0,rfl,Nat.zero_le _,m5,hb5,hI5,hQ,rfl⟩,?_⟩
  clear pa m5 hb5 hI5 hQ M5 ob R ag
  rintro k z ⟨M5,ob,R,ag,q,rfl,hq,m5,hb5,hI5,hQ,rfl⟩
  by_cases hqt:q<ms.length
  case neg=>
   obtain rfl:q=ms.length:=by omega
   have c7:decide ((ms.length:Int)<(ms.length:Int))=false:=by simp
   (replace hb0:=true_and True);refine Go1.mk ?_;repeat' ((first|(with_reducible refine Go1.go ?_)|((with_reducible first|refine brv_mk ?_ ?_|refine gsplitD ?_ ?_|refine gsplitG ?_ ?_)<;>intro h<;>(try simp only[Bool.not_eq_true',Bool.not_eq_false']at h)<;>replace hb0:=h)|(refine And.intro ?_ ?_;(try simp only[sxO]at *);omega)|fail)<;>(try simp (maxSteps:=1000000) only [hb0,chF,c7,wp,mo,ml,msl,go,xo,hasK_nil,↓hold_pre,awayP,runOps,regK,step1,newK,genR,appR,obl,buildR,Value.cells,closeK,keepH,outV,retK,ret1,retC,RetV,Option.getD,runD,stepD,afterK,undef,simprocAttr,sxB,↓sxD,sxE,sxTab]))
   exact ⟨ms.length-(p+1),chE M5 b x g m dd i ms.length (p+1) ag,by omega,le_sub ⟨rfl,rfl,rfl,rfl,rfl,rfl,rfl,rfl,rfl,rfl,trivial⟩ trivial rfl rfl rfl (keepLt_of rfl),M5,ob,R,ag,p+1,rfl,by omega,m5,hb5,hI5,hQ.next,rfl⟩
  have c7:decide ((q:Int)<(ms.length:Int))=true:=by rw[decide_eq_true_eq];omega
  have x2:(0:Int)≤(q:Int):=by omega
  have x3:(q:Int)<(ms.length:Int):=by omega
  have wq:IntKind.i64.wrap ((q:Int)+1)=((q+1:Nat):Int):=by rw[wrap_id (by omega) (by omega)];omega
  have pb:=(k2.le m5).at (P:=Try.prog) (T:=3) tk3 tz3 hqt
  have hgb:ms.getD q 0=ms[q]:=by rw[List.getD_eq_getElem?_getD,List.getElem?_eq_getElem hqt];rfl
  have hbn:=hmem _ (List.getElem_mem hqt)
  rw[←hgb]at pb hbn
  have hRn2:∀j∈R,j<1000000:=fun j hj=>by have:=hmem j (hQ.1.sub j hj);omega
  have hst:=fun hc=>hQ.stay hc
  have hch:=fun hno=>hQ.change hqt hno
  rw[←hav]at hst
  clear hQ hgb
  generalize ms.getD q 0=c at *
  have hma:=mapM_enc hb5 hI5 hRn2 (show a<1000000 by omega)
  have hmc:=mapM_enc hb5 hI5 hRn2 (show c<1000000 by omega)
  have haX:a<X.length:=by omega
  have hcX:c<X.length:=by omega
  obtain ⟨xn,xa⟩:=hXat (m4.trans m5) a haX
  obtain ⟨_,xc⟩:=hXat (m4.trans m5) c hcX
  have oa:=((hXo3 _ (List.getElem_mem haX)).le m4).le m5
  have oc:=((hXo3 _ (List.getElem_mem hcX)).le m4).le m5
  have oa1:=oa.1.one
  have oc1:=oc.1.one
  have hl2:=hlk a c haX hcX
  have ea:=hXe a haX
  have ec:=hXe c hcX
  have a2:(0:Int)≤(a:Int):=by omega
  have a3:(a:Int)<(n:Int):=by omega
  have b2:(0:Int)≤(c:Int):=by omega
  have b3:(c:Int)<(n:Int):=by omega
  unfold faV at xa xc
  cases hra:R.contains a with
  | false=>
   rw[hra]at hma
   have hnot:a∉R:=fun h=>by rw[List.contains_iff_mem.2 h]at hra;cases hra
   (replace hb0:=true_and True);refine Go1.mk ?_;repeat' ((first|(with_reducible refine Go1.go ?_)|((with_reducible first|refine brv_mk ?_ ?_|refine gsplitD ?_ ?_|refine gsplitG ?_ ?_)<;>intro h<;>(try simp only[Bool.not_eq_true',Bool.not_eq_false']at h)<;>replace hb0:=h)|((with_reducible refine isDraw [some 102,some 103,some 104,some 105,some 106,some 107,some 108,some 109,some 110,some 111,some 112,some 113,some 114,some 115,some 116,some 117,some 118,some 119,some 120,some 121,some 122] (by decide) ?_);refine draw_rule [(0,[]),(1,[]),(2,[]),(3,[]),(4,[]),(5,[]),(6,[]),(7,[]),(8,[]),(9,[]),(10,[]),(11,[]),(12,[]),(13,[]),(14,[13]),(15,[13]),(16,[13]),(17,[13]),(18,[13,17]),(19,[]),(20,[])] [[],[],[0,1],[0,1,2],[0,1,2,3],[0,1,2,3],[0,1,2,3,4,5],[0,1,2,3,4,5,6],[0,1,2,3,4,5,6,7],[0,1,2,3,4,5,6,7,8],[0,1,2,3,4,5,6,7,8,9],[0,1,2,3,4,5,6,7,8,9],[0,1,2,3,4,5,6,7,8,9,10,11],[0,1,2,3,4,5,6,7,8,9,10,11,12],[0,1,2,3,4,5,6,7,8,9],[0,1,2,3,4,5,6,7,8,9],[0,1,2,3,4,5,6,7,8,9,14,15],[0,1,2,3,4,5,6,7,8,9,14,15,16],[0,1,2,3,4,5,6,7,8,9],[0,1,2,3,4,5,6,7,8,9,10,11,12,13,14,15,16,17,18],[0,1,2,3,4,5,6,7,8,9,10,11,12,13,14,15,16,17,18,19]] [102,103,106,107,112,113,114,115,116,117,118,119,120] [] (by kernel_rfl) (by kernel_rfl) (by kernel_rfl) (by kernel_rfl) (by exact trivial) ?_)|(refine And.intro ?_ ?_;(try simp only[sxO]at *);omega)|fail)<;>(try simp (maxSteps:=1000000) only [hb0,chF,natV,faV,c7,x2,x3,pb,mn,hib,hma,hmc,a2,a3,b2,b3,xn,xa,xc,oa1,oc1,wq,mo,ml,msl,go,xo,xl,xs,hasK_nil,↓hold_pre,awayP,runOps,regK,step1,newK,genR,appR,obl,buildR,Value.cells,closeK,keepH,outV,retK,ret1,retC,RetV,Option.getD,runD,stepD,afterK,undef,simprocAttr,sxB,↓sxD,sxE,sxTab]))
   exact ⟨ms.length-(q+1),chF M5 b x g m dd i ms.length p (q+1) a ag,by omega,le_sub ⟨rfl,rfl,rfl,rfl,rfl,rfl,rfl,rfl,rfl,rfl,rfl,rfl,rfl,rfl,trivial⟩ trivial rfl rfl rfl (keepLt_of rfl),M5,ob,R,ag,q+1,rfl,by omega,m5,hb5,hI5,hst (fun h=>absurd h hnot),rfl⟩
  | true=>
   rw[hra]at hma
   cases hrc:R.contains c with
   | true=>
    rw[hrc]at hmc
    have hin:c∈R:=List.contains_iff_mem.1 hrc
    (replace hb0:=true_and True);refine Go1.mk ?_;repeat' ((first|(with_reducible refine Go1.go ?_)|((with_reducible first|refine brv_mk ?_ ?_|refine gsplitD ?_ ?_|refine gsplitG ?_ ?_)<;>intro h<;>(try simp only[Bool.not_eq_true',Bool.not_eq_false']at h)<;>replace hb0:=h)|((with_reducible refine isDraw [some 102,some 103,some 104,some 105,some 106,some 107,some 108,some 109,some 110,some 111,some 112,some 113,some 114,some 115,some 116,some 117,some 118,some 119,some 120,some 121,some 122] (by decide) ?_);refine draw_rule [(0,[]),(1,[]),(2,[]),(3,[]),(4,[]),(5,[]),(6,[]),(7,[]),(8,[]),(9,[]),(10,[]),(11,[]),(12,[]),(13,[]),(14,[13]),(15,[13]),(16,[13]),(17,[13]),(18,[13,17]),(19,[]),(20,[])] [[],[],[0,1],[0,1,2],[0,1,2,3],[0,1,2,3],[0,1,2,3,4,5],[0,1,2,3,4,5,6],[0,1,2,3,4,5,6,7],[0,1,2,3,4,5,6,7,8],[0,1,2,3,4,5,6,7,8,9],[0,1,2,3,4,5,6,7,8,9],[0,1,2,3,4,5,6,7,8,9,10,11],[0,1,2,3,4,5,6,7,8,9,10,11,12],[0,1,2,3,4,5,6,7,8,9],[0,1,2,3,4,5,6,7,8,9],[0,1,2,3,4,5,6,7,8,9,14,15],[0,1,2,3,4,5,6,7,8,9,14,15,16],[0,1,2,3,4,5,6,7,8,9],[0,1,2,3,4,5,6,7,8,9,10,11,12,13,14,15,16,17,18],[0,1,2,3,4,5,6,7,8,9,10,11,12,13,14,15,16,17,18,19]] [102,103,106,107,112,113,114,115,116,117,118,119,120] [] (by kernel_rfl) (by kernel_rfl) (by kernel_rfl) (by kernel_rfl) (by exact trivial) ?_)|(refine And.intro ?_ ?_;(try simp only[sxO]at *);omega)|fail)<;>(try simp (maxSteps:=1000000) only [hb0,chF,natV,faV,c7,x2,x3,pb,mn,hib,hma,hmc,a2,a3,b2,b3,xn,xa,xc,oa1,oc1,wq,mo,ml,msl,go,xo,xl,xs,hasK_nil,↓hold_pre,awayP,runOps,regK,step1,newK,genR,appR,obl,buildR,Value.cells,closeK,keepH,outV,retK,ret1,retC,RetV,Option.getD,runD,stepD,afterK,undef,simprocAttr,sxB,↓sxD,sxE,sxTab]))
    exact ⟨ms.length-(q+1),chF M5 b x g m dd i ms.length p (q+1) a ag,by omega,le_sub ⟨rfl,rfl,rfl,rfl,rfl,rfl,rfl,rfl,rfl,rfl,rfl,rfl,rfl,rfl,trivial⟩ trivial rfl rfl rfl (keepLt_of rfl),M5,ob,R,ag,q+1,rfl,by omega,m5,hb5,hI5,hst (fun _ _=>hin),rfl⟩
   | false=>
    rw[hrc]at hmc
    have hno:c∉R:=fun h=>by rw[List.contains_iff_mem.2 h]at hrc;cases hrc
    (replace hb0:=true_and True);refine Go1.mk ?_;repeat' ((first|(with_reducible refine Go1.go ?_)|((with_reducible first|refine brv_mk ?_ ?_|refine gsplitD ?_ ?_|refine gsplitG ?_ ?_)<;>intro h<;>(try simp only[Bool.not_eq_true',Bool.not_eq_false']at h)<;>replace hb0:=h)|(((with_reducible refine isCall0 (f:=20) ?_);refine callA0_nil (by kernel_rfl) ?_;refine (plinked_ok X[a] X[c] dd ea ec oa oc (fun M6 m6=>Stop.mk ?_))))|((with_reducible refine isDraw [some 102,some 103,some 104,some 105,some 106,some 107,some 108,some 109,some 110,some 111,some 112,some 113,some 114,some 115,some 116,some 117,some 118,some 119,some 120,some 121,some 122] (by decide) ?_);refine draw_rule [(0,[]),(1,[]),(2,[]),(3,[]),(4,[]),(5,[]),(6,[]),(7,[]),(8,[]),(9,[]),(10,[]),(11,[]),(12,[]),(13,[]),(14,[13]),(15,[13]),(16,[13]),(17,[13]),(18,[13,17]),(19,[]),(20,[])] [[],[],[0,1],[0,1,2],[0,1,2,3],[0,1,2,3],[0,1,2,3,4,5],[0,1,2,3,4,5,6],[0,1,2,3,4,5,6,7],[0,1,2,3,4,5,6,7,8],[0,1,2,3,4,5,6,7,8,9],[0,1,2,3,4,5,6,7,8,9],[0,1,2,3,4,5,6,7,8,9,10,11],[0,1,2,3,4,5,6,7,8,9,10,11,12],[0,1,2,3,4,5,6,7,8,9],[0,1,2,3,4,5,6,7,8,9],[0,1,2,3,4,5,6,7,8,9,14,15],[0,1,2,3,4,5,6,7,8,9,14,15,16],[0,1,2,3,4,5,6,7,8,9],[0,1,2,3,4,5,6,7,8,9,10,11,12,13,14,15,16,17,18],[0,1,2,3,4,5,6,7,8,9,10,11,12,13,14,15,16,17,18,19]] [102,103,106,107,112,113,114,115,116,117,118,119,120] [] (by kernel_rfl) (by kernel_rfl) (by kernel_rfl) (by kernel_rfl) (by exact trivial) ?_)|(refine And.intro ?_ ?_;(try simp only[sxO]at *);omega)|fail)<;>(try simp (maxSteps:=1000000) only [hb0,chF,natV,faV,c7,x2,x3,pb,mn,hib,hma,hmc,a2,a3,b2,b3,xn,xa,xc,oa1,oc1,wq,mo,ml,msl,go,xo,xl,xs,hasK_nil,↓hold_pre,awayP,runOps,regK,step1,newK,genR,appR,obl,buildR,Value.cells,closeK,keepH,outV,retK,ret1,retC,RetV,Option.getD,runD,stepD,afterK,undef,simprocAttr,sxB,↓sxD,sxE,sxTab]))
    have m6:Mem.le M5 M6:=m6
    have hb6:=m6 b ob hb5
    cases hll:lkB (keysB (faB X[a]).1 (faB X[a]).2 dd) (keysB (faB X[c]).1 (faB X[c]).2 dd) with
    | false=>
     have hnl:¬lnkR T dd a c:=fun h=>by rw[hl2.2 h]at hll;cases hll
     refine Stop.go ?_
     (replace hb0:=true_and True);refine Go1.mk ?_;repeat' ((first|(with_reducible refine Go1.go ?_)|((with_reducible first|refine brv_mk ?_ ?_|refine gsplitD ?_ ?_|refine gsplitG ?_ ?_)<;>intro h<;>(try simp only[Bool.not_eq_true',Bool.not_eq_false']at h)<;>replace hb0:=h)|(refine And.intro ?_ ?_;(try simp only[sxO]at *);omega)|fail)<;>(try simp (maxSteps:=1000000) only [hb0,hll,wq,mo,ml,msl,go,xo,xl,xs,hasK_nil,↓hold_pre,awayP,runOps,regK,step1,newK,genR,appR,obl,buildR,Value.cells,closeK,keepH,outV,retK,ret1,retC,RetV,Option.getD,runD,stepD,afterK,undef,simprocAttr,sxB,↓sxD,sxE,sxTab]))
     exact ⟨ms.length-(q+1),chF M6 b x g m dd i ms.length p (q+1) a ag,by omega,le_sub ⟨rfl,rfl,rfl,rfl,rfl,rfl,rfl,rfl,rfl,rfl,rfl,rfl,rfl,rfl,trivial⟩ trivial rfl rfl rfl (keepLt_of rfl),M6,ob,R,ag,q+1,rfl,by omega,m5.trans m6,hb6,hI5,hst (fun _ h=>absurd h hnl),rfl⟩
    | true=>
     have hkc:=Maps.keyOf_int_mk (P:=Try.prog) Try.underlying3 (a:=((c:Nat):Int)) (wf64 (by omega) (by omega))
     refine Stop.go ?_
     (replace hb0:=true_and True);refine Go1.mk ?_;repeat' ((first|(with_reducible refine Go1.go ?_)|((with_reducible first|refine brv_mk ?_ ?_|refine gsplitD ?_ ?_|refine gsplitG ?_ ?_)<;>intro h<;>(try simp only[Bool.not_eq_true',Bool.not_eq_false']at h)<;>replace hb0:=h)|(refine And.intro ?_ ?_;(try simp only[sxO]at *);omega)|fail)<;>(try simp (maxSteps:=1000000) only [hb0,hll,wq,mo,ml,msl,go,xo,xl,xs,hasK_nil,↓hold_pre,awayP,runOps,regK,step1,newK,genR,appR,obl,buildR,Value.cells,closeK,keepH,outV,retK,ret1,retC,RetV,Option.getD,runD,stepD,afterK,undef,simprocAttr,sxB,↓sxD,sxE,sxTab]))
     refine ask_updateV (b:=b) (key:=.int .i64 ((c:Nat):Int)) (v:=.bool true) rfl kI htm rfl rfl rfl (by exact List.mem_cons_self) hb6 hI5 (encB_key Try.underlying3 hRn2) hkc (encB_new hno) (fun ob' hob'=>?_)
     rw[encB_snoc]at hob'
     have m7:Mem.le M4 (updM M6 b ob'):=le_off (m5.trans m6) hMb fun x hx=>updM_ne hx
     have hb7:updM M6 b ob' b=some ob':=updM_self _ _ _
     generalize updM M6 b ob'=M7 at m7 hb7 ⊢
     (replace hb0:=true_and True);refine Go1.mk ?_;repeat' ((first|(with_reducible refine Go1.go ?_)|((with_reducible first|refine brv_mk ?_ ?_|refine gsplitD ?_ ?_|refine gsplitG ?_ ?_)<;>intro h<;>(try simp only[Bool.not_eq_true',Bool.not_eq_false']at h)<;>replace hb0:=h)|(refine And.intro ?_ ?_;(try simp only[sxO]at *);omega)|fail)<;>(try simp (maxSteps:=1000000) only [hb0,St.put,wq,mo,ml,msl,go,xo,xl,xs,hasK_nil,↓hold_pre,awayP,runOps,regK,step1,newK,genR,appR,obl,buildR,Value.cells,closeK,keepH,outV,retK,ret1,retC,RetV,Option.getD,runD,stepD,afterK,undef,simprocAttr,sxB,↓sxD,sxE,sxTab]))
     exact ⟨ms.length-(q+1),chF M7 b x g m dd i ms.length p (q+1) a true,by omega,le_sub ⟨rfl,rfl,rfl,rfl,rfl,rfl,rfl,rfl,rfl,rfl,rfl,rfl,rfl,rfl,trivial⟩ trivial rfl rfl rfl (keepLt_of rfl),M7,ob',_,true,q+1,rfl,by omega,m7,hb7,hob',hch hno,rfl⟩
end
end Go.Proofs.Ytoblkpomikokhaa.Sx
