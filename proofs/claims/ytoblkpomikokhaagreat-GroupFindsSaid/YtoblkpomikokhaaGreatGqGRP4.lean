/- Part 29 of the texts of this claim: a symbolic executor and contracts of functions. -/
import Derived.Test.YtoblkpomikokhaaGreatGqGRP3
import Derived.Test.YtoblkpomikokhaaGreatGqGRCSub
namespace Go.Proofs.YtoblkpomikokhaaGreat.Sx
open Go Go.RowKit
set_option linter.unusedVariables false
set_option linter.unusedSimpArgs false
set_option maxRecDepth 100000
set_option maxHeartbeats 8000000
attribute [local congr] fin_congr finG_congr stepG_congr step1_congr runOps_congr brv_congr obl_congr condK_congr LoopK_congr seqK_congr CutK_congr vc_congr DrawK_congr regK_congr CallK_congr AskK_congr newK_congr retC_congr ret1_congr retK_congr outV_congr closeK_congr genR_congr appR_congr finD_congr finGD_congr stepGD_congr stepD_congr CallK0_congr runD_congr okR_congr CallS_congr vcX_congr
attribute [local congr] Stop_congr
theorem IsR.part{α:Type}{P:Program}{M:Mem}{z:Nat}{f:α→List Value}{u:Value}{l:List α}(h:IsR M z f u l)(hf:∀x,(f x).length=z){T:TypeId}(hk:kindT P T=some true){zz:Nat}(hz:szO P T=some zz){i o:Nat}(hi:i<l.length)(ho:o+zz≤z):lookM P T M (addP (elemP u z i) o)=some (.agg (((f l[i]).drop o).take zz).toArray):=by
 rw[SlM.atFS h hk hz hi ho,←flat_part hf l i hi,List.drop_take,List.drop_drop,List.take_take,Nat.min_eq_left (by omega)]
structure okO (O:List GO):Prop where
 len:O.length≤64
 at_:∀o∈O,okB o.1.1 o.1.2∧o.2.length≤64∧o.1.2.length<1000000
theorem GrpO.ok{T:List (Bst×List Bst)}{d:Int}{O:List GO}(h:GrpO T d O)(hT:∀s∈T,okB s.1 s.2)(hl:T.length≤64):okO O:=by
 obtain ⟨f,_,rfl⟩:=h
 have h1:=List.length_filter_le (fun j=>f j==j) (List.range T.length)
 rw[List.length_range]at h1
 have h2:(rootsU f T.length).length≤T.length:=h1
 refine ⟨by unfold grpO outU;rw[List.length_map,List.length_map];omega,fun o ho=>?_⟩
 unfold grpO at ho
 obtain ⟨p,hp,rfl⟩:=List.mem_map.1 ho
 obtain ⟨h3,h4⟩:=outU_bnd (Nat.le_refl _) p hp
 have e:T.getD p.1 ([],[])∈T:=by rw[List.getD_eq_getElem?_getD,List.getElem?_eq_getElem h3];exact List.getElem_mem _
 have h5:=hT _ e
 exact ⟨h5,by show p.2.length≤64;omega,Nat.lt_of_lt_of_le h5.2.1 (by decide)⟩
def lrgN(ls:List Nat):Nat→Option Nat
 | 0=>none
 | i+1=>match lrgN ls i with
  | none=>some i
  | some a=>if ls.getD a 0<ls.getD i 0 then some i else some a
theorem lrgN_lt{ls:List Nat}:∀{i a:Nat},lrgN ls i=some a→a<i
 | 0,a,h=>by cases h
 | i+1,a,h=>by
  simp only[lrgN]at h
  split at h
  ·cases h;omega
  ·rename_i b hb
   have:=lrgN_lt hb
   split at h
   ·cases h;omega
   ·cases h;omega
def lrgI:Option Nat→Int
 | none=>-1
 | some a=>(a:Int)
def lrgO(O:List GO):Int:=lrgI (lrgN (O.map fun o=>o.2.length) O.length)
section
variable {M:Mem}{K:AV→Hp→Mem→Prop}
def sameSt(M:Mem)(u1 u2:Value)(i:Nat):St:={env:=[(5,.ext (.int .i64 (i:Int))),(4,.ext (.bool false)),(1,.ext u2),(0,.ext u1)],hp:=[],M:=M,kb:=0,fx:=[]}
theorem sameInts_ok(u1 u2:Value)(l1 l2:List Int)(h1:IsL M intV64 u1 l1)(h2:IsL M intV64 u2 l2)(hb:l1.length<1000000000)(hb2:l2.length<1000000000)(hK:K (.ext (.bool (decide (l1=l2)))) [] M):CallS Tryz.prog 11 [.ext u1,.ext u2] [] M [] K:=by
 refine inlS (cs:=[]) Tryz.mixed Tryz.func11 rfl (by kernel_rfl) 0 rfl rfl ?_
 simp only[Tryz.f11]
 by_cases hl:l1.length=l2.length
 ·have hl2:decide ((l1.length:Int)=(l2.length:Int))=true:=by simp[hl]
  refine Go1.mk ?_;repeat' ((first|(with_reducible refine Go1.go ?_)|((with_reducible refine isDraw [some 17,some 18,some 19,some 20,some 21,some 22,some 23,some 24,some 25] (by decide) ?_);refine draw_rule [(0,[]),(1,[]),(2,[]),(3,[]),(4,[3]),(5,[3]),(6,[3]),(7,[3]),(8,[])] [[],[],[0,1],[0,1,2],[],[],[4,5],[4,5,6],[0,1,2,3,4,5,6,7]] [17,18,19,20,21,22,23,24] [] (by kernel_rfl) (by kernel_rfl) (by kernel_rfl) (by kernel_rfl) (by exact trivial) ?_)|(refine And.intro ?_ ?_;(try simp only[sxO]at *);omega)|fail)<;>(try simp (maxSteps:=1000000) only [h1.len,h1.sl,h2.len,h2.sl,hl2,↓hold_pre,awayP,runOps,regK,step1,newK,genR,appR,obl,buildR,Value.cells,closeK,keepH,outV,retK,ret1,retC,RetV,Option.getD,runD,stepD,afterK,undef,simprocAttr,sxB,↓sxD,sxE,sxTab]))
  refine ⟨fun m z=>∃i,i≤l1.length∧l1.take i=l2.take i∧m=l1.length-i∧z=sameSt M u1 u2 i,⟨l1.length,sameSt M u1 u2 0,le_sub ⟨rfl,rfl,rfl,rfl,trivial⟩ trivial rfl rfl rfl (keepLt0 _),⟨0,by omega,rfl,rfl,rfl⟩⟩,?_⟩
  rintro m z ⟨i,hi,hpre,rfl,rfl⟩
  by_cases hlt:i<l1.length
  ·have hlt2:i<l2.length:=by omega
   have f1:=h1.idx (P:=Tryz.prog) (T:=3) tk3 tz3 (by omega) hlt
   have f2:=h2.idx (P:=Tryz.prog) (T:=3) tk3 tz3 (by omega) hlt2
   by_cases he:l1[i]=l2[i]
   ·have d1:decide (l1[i]=l2[i])=true:=decide_eq_true he
    refine Go1.mk ?_;repeat' ((first|(with_reducible refine Go1.go ?_)|((with_reducible refine isDraw [some 17,some 18,some 19,some 20,some 21,some 22,some 23,some 24,some 25] (by decide) ?_);refine draw_rule [(0,[]),(1,[]),(2,[]),(3,[]),(4,[3]),(5,[3]),(6,[3]),(7,[3]),(8,[])] [[],[],[0,1],[0,1,2],[],[],[4,5],[4,5,6],[0,1,2,3,4,5,6,7]] [17,18,19,20,21,22,23,24] [] (by kernel_rfl) (by kernel_rfl) (by kernel_rfl) (by kernel_rfl) (by exact trivial) ?_)|(refine And.intro ?_ ?_;(try simp only[sxO]at *);omega)|fail)<;>(try simp (maxSteps:=1000000) only [f1,f2,intV64,d1,sameSt,↓hold_pre,awayP,runOps,regK,step1,newK,genR,appR,obl,buildR,Value.cells,closeK,keepH,outV,retK,ret1,retC,RetV,Option.getD,runD,stepD,afterK,undef,simprocAttr,sxB,↓sxD,sxE,sxTab]))
    refine ⟨l1.length-(i+1),sameSt M u1 u2 (i+1),by omega,le_sub ⟨rfl,rfl,rfl,rfl,trivial⟩ trivial rfl rfl rfl (keepLt0 _),i+1,by omega,?_,rfl,rfl⟩
    rw[List.take_succ_eq_append_getElem hlt,List.take_succ_eq_append_getElem hlt2,hpre,he]
   ·have d1:decide (l1[i]=l2[i])=false:=decide_eq_false he
    have e:decide (l1=l2)=false:=by
     simp only[decide_eq_false_iff_not]
     intro e;subst e;exact he rfl
    rw[e]at hK
    refine Go1.mk ?_;repeat' ((first|(with_reducible refine Go1.go ?_)|((with_reducible refine isDraw [some 17,some 18,some 19,some 20,some 21,some 22,some 23,some 24,some 25] (by decide) ?_);refine draw_rule [(0,[]),(1,[]),(2,[]),(3,[]),(4,[3]),(5,[3]),(6,[3]),(7,[3]),(8,[])] [[],[],[0,1],[0,1,2],[],[],[4,5],[4,5,6],[0,1,2,3,4,5,6,7]] [17,18,19,20,21,22,23,24] [] (by kernel_rfl) (by kernel_rfl) (by kernel_rfl) (by kernel_rfl) (by exact trivial) ?_)|(refine And.intro ?_ ?_;(try simp only[sxO]at *);omega)|fail)<;>(try simp (maxSteps:=1000000) only [f1,f2,intV64,d1,sameSt,↓hold_pre,awayP,runOps,regK,step1,newK,genR,appR,obl,buildR,Value.cells,closeK,keepH,outV,retK,ret1,retC,RetV,Option.getD,runD,stepD,afterK,undef,simprocAttr,sxB,↓sxD,sxE,sxTab]))
    exact hK
  ·have f1:=h1.fin hlt
   have ei:i=l1.length:=by omega
   subst ei
   rw[List.take_length,hl,List.take_length]at hpre
   have e:decide (l1=l2)=true:=by simp[hpre]
   rw[e]at hK
   refine Go1.mk ?_;repeat' ((first|(with_reducible refine Go1.go ?_)|((with_reducible refine isDraw [some 17,some 18,some 19,some 20,some 21,some 22,some 23,some 24,some 25] (by decide) ?_);refine draw_rule [(0,[]),(1,[]),(2,[]),(3,[]),(4,[3]),(5,[3]),(6,[3]),(7,[3]),(8,[])] [[],[],[0,1],[0,1,2],[],[],[4,5],[4,5,6],[0,1,2,3,4,5,6,7]] [17,18,19,20,21,22,23,24] [] (by kernel_rfl) (by kernel_rfl) (by kernel_rfl) (by kernel_rfl) (by exact trivial) ?_)|(refine And.intro ?_ ?_;(try simp only[sxO]at *);omega)|fail)<;>(try simp (maxSteps:=1000000) only [f1,sameSt,↓hold_pre,awayP,runOps,regK,step1,newK,genR,appR,obl,buildR,Value.cells,closeK,keepH,outV,retK,ret1,retC,RetV,Option.getD,runD,stepD,afterK,undef,simprocAttr,sxB,↓sxD,sxE,sxTab]))
   exact hK
 ·have hl2:decide ((l1.length:Int)=(l2.length:Int))=false:=by simp;omega
  have e:decide (l1=l2)=false:=by
   simp only[decide_eq_false_iff_not]
   intro e;subst e;exact hl rfl
  rw[e]at hK
  refine Go1.mk ?_;repeat' ((first|(with_reducible refine Go1.go ?_)|((with_reducible refine isDraw [some 17,some 18,some 19,some 20,some 21,some 22,some 23,some 24,some 25] (by decide) ?_);refine draw_rule [(0,[]),(1,[]),(2,[]),(3,[]),(4,[3]),(5,[3]),(6,[3]),(7,[3]),(8,[])] [[],[],[0,1],[0,1,2],[],[],[4,5],[4,5,6],[0,1,2,3,4,5,6,7]] [17,18,19,20,21,22,23,24] [] (by kernel_rfl) (by kernel_rfl) (by kernel_rfl) (by kernel_rfl) (by exact trivial) ?_)|(refine And.intro ?_ ?_;(try simp only[sxO]at *);omega)|fail)<;>(try simp (maxSteps:=1000000) only [h1.len,h1.sl,h2.len,h2.sl,hl2,↓hold_pre,awayP,runOps,regK,step1,newK,genR,appR,obl,buildR,Value.cells,closeK,keepH,outV,retK,ret1,retC,RetV,Option.getD,runD,stepD,afterK,undef,simprocAttr,sxB,↓sxD,sxE,sxTab]))
  exact hK
theorem IsL.nat{u:Value}{l:List Nat}(h:IsL M natV u l):IsL M intV64 u (l.map fun (x:Nat)=>(x:Int)):=by
 unfold IsL at h ⊢
 rw[List.map_map,List.length_map]
 exact h
theorem lgnum_ok(m:Bst)(y u:Value)(l:List Nat)(hy:y.oneCell'=true)(hu:IsL M natV u l)(hK:K (.ext (.int .i64 ((l.length:Nat):Int))) [] M):CallS Tryz.prog 56 [.ext (.agg #[.string (bs m),y,u])] [] M [] K:=by
 refine inlS (cs:=[]) Tryz.mixed Tryz.func56 rfl (by kernel_rfl) 0 rfl rfl ?_
 simp only[Tryz.f56]
 have uo:=hu.one
 have ul:=hu.len
 have us:=hu.sl
 refine Go1.mk ?_;repeat' ((first|(with_reducible refine Go1.go ?_)|(refine And.intro ?_ ?_;(try simp only[sxO]at *);omega)|fail)<;>(try simp (maxSteps:=1000000) only [hy,uo,ul,us,↓hold_pre,awayP,runOps,regK,step1,newK,genR,appR,obl,buildR,Value.cells,closeK,keepH,outV,retK,ret1,retC,RetV,Option.getD,runD,stepD,afterK,undef,simprocAttr,sxB,↓sxD,sxE,sxTab]))
 exact hK
def bgSt(M:Mem)(u:Value)(n i:Nat)(a:Int):St:={env:=[(10,.ext (.int .i64 (i:Int))),(9,.ext (.int .i64 (n:Int))),(8,.ext u),(5,.ext (.int .i64 a)),(1,.fn 56 []),(0,.ext u)],hp:=[],M:=M,kb:=0,fx:=[]}
theorem pbest_ok(u:Value)(O:List GO)(hu:GRV M u O)(hO:okO O)(hK:K (.ext (.int .i64 (lrgO O))) [] M):CallS Tryz.prog 55 [.ext u,.fn 56 []] [] M [] K:=by
 obtain ⟨L,h1,h2,h3⟩:=hu
 refine inlS (cs:=[]) Tryz.mixed Tryz.func55 rfl (by kernel_rfl) 0 rfl rfl ?_
 simp only[Tryz.f55]
 have uo:=h1.one
 have ul:=h1.len
 have us:=h1.sl
 obtain ⟨ls,hls⟩:∃ls,ls=O.map fun o=>o.2.length:=⟨_,rfl⟩
 have hOl:O.length=L.length:=by rw[←h3];simp
 have hat:∀i (h:i<L.length),ls.getD i 0=L[i].l.length:=fun i h=>by
  rw[hls,←h3,List.getD_eq_getElem?_getD,List.map_map,List.getElem?_map,List.getElem?_eq_getElem h];rfl
 have hn64:L.length≤64:=by rw[←hOl];exact hO.len
 unfold lrgO at hK
 rw[←hls,hOl]at hK
 refine Go1.mk ?_;repeat' ((first|(with_reducible refine Go1.go ?_)|(refine And.intro ?_ ?_;(try simp only[sxO]at *);omega)|fail)<;>(try simp (maxSteps:=1000000) only [uo,ul,us,↓hold_pre,awayP,runOps,regK,step1,newK,genR,appR,obl,buildR,Value.cells,closeK,keepH,outV,retK,ret1,retC,RetV,Option.getD,runD,stepD,afterK,undef,simprocAttr,sxB,↓sxD,sxE,sxTab]))
 refine ⟨fun m z=>∃i,i≤L.length∧m=L.length-i∧z=bgSt M u L.length i (lrgI (lrgN ls i)),⟨L.length,bgSt M u L.length 0 (-1),le_sub ⟨rfl,rfl,rfl,rfl,rfl,rfl,trivial⟩ trivial rfl rfl rfl (keepLt0 _),⟨0,by omega,rfl,rfl⟩⟩,?_⟩
 rintro m z ⟨i,hi,rfl,rfl⟩
 by_cases hlt:i<L.length
 case neg=>
  have y1:decide ((i:Int)<(L.length:Int))=false:=by rw[decide_eq_false_iff_not];omega
  obtain rfl:i=L.length:=by omega
  refine Go1.mk ?_;repeat' ((first|(with_reducible refine Go1.go ?_)|(refine And.intro ?_ ?_;(try simp only[sxO]at *);omega)|fail)<;>(try simp (maxSteps:=1000000) only [bgSt,y1,uo,ul,us,↓hold_pre,awayP,runOps,regK,step1,newK,genR,appR,obl,buildR,Value.cells,closeK,keepH,outV,retK,ret1,retC,RetV,Option.getD,runD,stepD,afterK,undef,simprocAttr,sxB,↓sxD,sxE,sxTab]))
  exact hK
 have y1:decide ((i:Int)<(L.length:Int))=true:=by rw[decide_eq_true_eq];omega
 have y2:(0:Int)≤(i:Int):=by omega
 have y3:(i:Int)<(L.length:Int):=by omega
 have wi:IntKind.i64.wrap ((i:Int)+1)=((i+1:Nat):Int):=by rw[wrap_id (by omega) (by omega)];omega
 have nn:=h1.nn hlt
 have at1:lookM Tryz.prog 43 M (elemP u 3 i)=some (.agg #[.string (bs L[i].m),L[i].y,L[i].u]):=h1.at (P:=Tryz.prog) (T:=43) (fun _=>rfl) tk43 tz43 hlt
 obtain ⟨p1,l1⟩:=h2 _ (List.getElem_mem hlt)
 have lo1:=l1.one
 have po1:=p1.one
 have hai:=hat i hlt
 cases hr:lrgN ls i with
 | none=>
  have e:lrgN ls (i+1)=some i:=by simp only[lrgN,hr]
  refine Go1.mk ?_;repeat' ((first|(with_reducible refine Go1.go ?_)|((with_reducible refine isDraw [some 15,some 16,some 17,some 18,some 19,some 20,some 21,some 22,some 23,some 24,some 25,some 26,some 27,some 28] (by decide) ?_);refine draw_rule [(0,[]),(1,[]),(2,[]),(3,[]),(4,[]),(6,[4]),(7,[4]),(8,[4]),(9,[4]),(10,[4]),(5,[10]),(11,[]),(12,[]),(13,[])] [[],[0],[0,1],[0,1,2],[0,1,2],[0,1,2,3,4],[0,1,2],[0,1,2],[0,1,2],[0,1,2,7,8],[0,1,2,7,8,9],[0,1,2,3,4,5,6,7,8,9,10],[0,1,2,3,4,5,6,7,8,9,10,11],[0,1,2,3,4,5,6,7,8,9,10,11,12]] [18,19,20,21,22,23,24,25] [] (by kernel_rfl) (by kernel_rfl) (by kernel_rfl) (by kernel_rfl) (by exact trivial) ?_)|(refine And.intro ?_ ?_;(try simp only[sxO]at *);omega)|fail)<;>(try simp (maxSteps:=1000000) only [bgSt,lrgI,y1,y2,y3,nn,at1,lo1,po1,wi,uo,ul,us,↓hold_pre,awayP,runOps,regK,step1,newK,genR,appR,obl,buildR,Value.cells,closeK,keepH,outV,retK,ret1,retC,RetV,Option.getD,runD,stepD,afterK,undef,simprocAttr,sxB,↓sxD,sxE,sxTab]))
  exact ⟨L.length-(i+1),bgSt M u L.length (i+1) (i:Int),by omega,le_sub ⟨rfl,rfl,rfl,rfl,rfl,rfl,trivial⟩ trivial rfl rfl rfl (keepLt0 _),i+1,by omega,rfl,by rw[e];rfl⟩
 | some a=>
  have ha:=lrgN_lt hr
  have haL:a<L.length:=by omega
  have d0:decide ((a:Int)<0)=false:=by rw[decide_eq_false_iff_not];omega
  have a2:(0:Int)≤(a:Int):=by omega
  have a3:(a:Int)<(L.length:Int):=by omega
  have at2:lookM Tryz.prog 43 M (elemP u 3 a)=some (.agg #[.string (bs L[a].m),L[a].y,L[a].u]):=h1.at (P:=Tryz.prog) (T:=43) (fun _=>rfl) tk43 tz43 haL
  obtain ⟨p2,l2⟩:=h2 _ (List.getElem_mem haL)
  have lo2:=l2.one
  have po2:=p2.one
  have haa:=hat a haL
  refine Go1.mk ?_;repeat' ((first|(with_reducible refine Go1.go ?_)|(((with_reducible refine isCall0 (f:=56) ?_);refine callA0_nil (by kernel_rfl) ?_;refine (lgnum_ok L[i].m L[i].y L[i].u L[i].l po1 l1 (Stop.mk ?_))))|((with_reducible refine isDraw [some 15,some 16,some 17,some 18,some 19,some 20,some 21,some 22,some 23,some 24,some 25,some 26,some 27,some 28] (by decide) ?_);refine draw_rule [(0,[]),(1,[]),(2,[]),(3,[]),(4,[]),(6,[4]),(7,[4]),(8,[4]),(9,[4]),(10,[4]),(5,[10]),(11,[]),(12,[]),(13,[])] [[],[0],[0,1],[0,1,2],[0,1,2],[0,1,2,3,4],[0,1,2],[0,1,2],[0,1,2],[0,1,2,7,8],[0,1,2,7,8,9],[0,1,2,3,4,5,6,7,8,9,10],[0,1,2,3,4,5,6,7,8,9,10,11],[0,1,2,3,4,5,6,7,8,9,10,11,12]] [18,19,20,21,22,23,24,25] [] (by kernel_rfl) (by kernel_rfl) (by kernel_rfl) (by kernel_rfl) (by exact trivial) ?_)|(refine And.intro ?_ ?_;(try simp only[sxO]at *);omega)|fail)<;>(try simp (maxSteps:=1000000) only [bgSt,lrgI,y1,y2,y3,nn,at1,at2,lo1,po1,lo2,po2,d0,a2,a3,wi,uo,ul,us,↓hold_pre,awayP,runOps,regK,step1,newK,genR,appR,obl,buildR,Value.cells,closeK,keepH,outV,retK,ret1,retC,RetV,Option.getD,runD,stepD,afterK,undef,simprocAttr,sxB,↓sxD,sxE,sxTab]))
  refine Stop.go ?_
  refine Go1.mk ?_;repeat' ((first|(with_reducible refine Go1.go ?_)|(((with_reducible refine isCall0 (f:=56) ?_);refine callA0_nil (by kernel_rfl) ?_;refine (lgnum_ok L[a].m L[a].y L[a].u L[a].l po2 l2 (Stop.mk ?_))))|(refine And.intro ?_ ?_;(try simp only[sxO]at *);omega)|fail)<;>(try simp (maxSteps:=1000000) only [bgSt,lrgI,y1,y2,y3,nn,at1,at2,lo1,po1,lo2,po2,d0,a2,a3,wi,uo,ul,us,↓hold_pre,awayP,runOps,regK,step1,newK,genR,appR,obl,buildR,Value.cells,closeK,keepH,outV,retK,ret1,retC,RetV,Option.getD,runD,stepD,afterK,undef,simprocAttr,sxB,↓sxD,sxE,sxTab]))
  by_cases hc:ls.getD a 0<ls.getD i 0
  ·have e:lrgN ls (i+1)=some i:=by simp only[lrgN,hr,if_pos hc]
   have d1:decide (((L[a].l.length:Nat):Int)<((L[i].l.length:Nat):Int))=true:=by rw[decide_eq_true_eq];omega
   refine Stop.go ?_
   refine Go1.mk ?_;repeat' ((first|(with_reducible refine Go1.go ?_)|(refine And.intro ?_ ?_;(try simp only[sxO]at *);omega)|fail)<;>(try simp (maxSteps:=1000000) only [d1,gt_iff_lt,wi,uo,ul,us,↓hold_pre,awayP,runOps,regK,step1,newK,genR,appR,obl,buildR,Value.cells,closeK,keepH,outV,retK,ret1,retC,RetV,Option.getD,runD,stepD,afterK,undef,simprocAttr,sxB,↓sxD,sxE,sxTab]))
   exact ⟨L.length-(i+1),bgSt M u L.length (i+1) (i:Int),by omega,le_sub ⟨rfl,rfl,rfl,rfl,rfl,rfl,trivial⟩ trivial rfl rfl rfl (keepLt0 _),i+1,by omega,rfl,by rw[e];rfl⟩
  ·have e:lrgN ls (i+1)=some a:=by simp only[lrgN,hr,if_neg hc]
   have d1:decide (((L[a].l.length:Nat):Int)<((L[i].l.length:Nat):Int))=false:=by rw[decide_eq_false_iff_not];omega
   refine Stop.go ?_
   refine Go1.mk ?_;repeat' ((first|(with_reducible refine Go1.go ?_)|(refine And.intro ?_ ?_;(try simp only[sxO]at *);omega)|fail)<;>(try simp (maxSteps:=1000000) only [d1,gt_iff_lt,wi,uo,ul,us,↓hold_pre,awayP,runOps,regK,step1,newK,genR,appR,obl,buildR,Value.cells,closeK,keepH,outV,retK,ret1,retC,RetV,Option.getD,runD,stepD,afterK,undef,simprocAttr,sxB,↓sxD,sxE,sxTab]))
   exact ⟨L.length-(i+1),bgSt M u L.length (i+1) (a:Int),by omega,le_sub ⟨rfl,rfl,rfl,rfl,rfl,rfl,trivial⟩ trivial rfl rfl rfl (keepLt0 _),i+1,by omega,rfl,by rw[e];rfl⟩
theorem plargest_ok(u:Value)(O:List GO)(hu:GRV M u O)(hO:okO O)(hK:K (.ext (.int .i64 (lrgO O))) [] M):CallS Tryz.prog 35 [.ext u] [] M [] K:=by
 refine inlS (cs:=[]) Tryz.mixed Tryz.func35 rfl (by kernel_rfl) 0 rfl rfl ?_
 simp only[Tryz.f35]
 have uo:u.oneCell'=true:=by obtain ⟨L,h1,_⟩:=hu;exact h1.one
 refine Go1.mk ?_;repeat' ((first|(with_reducible refine Go1.go ?_)|(((with_reducible refine isCall (f:=55) ?_);refine callA_nil (by kernel_rfl) ?_;refine (pbest_ok u O hu hO ?_)))|(refine And.intro ?_ ?_;(try simp only[sxO]at *);omega)|fail)<;>(try simp (maxSteps:=1000000) only [uo,↓hold_pre,awayP,runOps,regK,step1,newK,genR,appR,obl,buildR,Value.cells,closeK,keepH,outV,retK,ret1,retC,RetV,Option.getD,runD,stepD,afterK,undef,simprocAttr,sxB,↓sxD,sxE,sxTab]))
 exact hK
def smSt(M:Mem)(u1 u2:Value)(i:Nat):St:={env:=[(5,.ext (.int .i64 (i:Int))),(4,.ext (.bool false)),(1,.ext u2),(0,.ext u1)],hp:=[],M:=M,kb:=0,fx:=[]}
theorem rsame_ok(u1 u2:Value)(O1 O2:List GO)(hu1:GRV M u1 O1)(hu2:GRV M u2 O2)(hO1:okO O1)(hO2:okO O2)(hK:K (.ext (.bool (decide (O1=O2)))) [] M):CallS Tryz.prog 31 [.ext u1,.ext u2] [] M [] K:=by
 obtain ⟨L1,a1,a2,a3⟩:=hu1
 obtain ⟨L2,b1,b2,b3⟩:=hu2
 refine inlS (cs:=[]) Tryz.mixed Tryz.func31 rfl (by kernel_rfl) 0 rfl rfl ?_
 simp only[Tryz.f31]
 have o1:=a1.one
 have l1:=a1.len
 have s1:=a1.sl
 have o2:=b1.one
 have l2:=b1.len
 have s2:=b1.sl
 have e1:O1.length=L1.length:=by rw[←a3];simp
 have e2:O2.length=L2.length:=by rw[←b3];simp
 have hn1:=hO1.len
 have hn2:=hO2.len
 by_cases hl:L1.length=L2.length
 case neg=>
  have d1:decide ((L1.length:Int)=(L2.length:Int))=false:=by rw[decide_eq_false_iff_not];omega
  have e:decide (O1=O2)=false:=by
   rw[decide_eq_false_iff_not];intro e;rw[e]at e1;omega
  rw[e]at hK
  refine Go1.mk ?_;repeat' ((first|(with_reducible refine Go1.go ?_)|(refine And.intro ?_ ?_;(try simp only[sxO]at *);omega)|fail)<;>(try simp (maxSteps:=1000000) only [o1,o2,l1,l2,s1,s2,d1,↓hold_pre,awayP,runOps,regK,step1,newK,genR,appR,obl,buildR,Value.cells,closeK,keepH,outV,retK,ret1,retC,RetV,Option.getD,runD,stepD,afterK,undef,simprocAttr,sxB,↓sxD,sxE,sxTab]))
  exact hK
 have d1:decide ((L1.length:Int)=(L2.length:Int))=true:=by rw[decide_eq_true_eq];omega
 refine Go1.mk ?_;repeat' ((first|(with_reducible refine Go1.go ?_)|(refine And.intro ?_ ?_;(try simp only[sxO]at *);omega)|fail)<;>(try simp (maxSteps:=1000000) only [o1,o2,l1,l2,s1,s2,d1,↓hold_pre,awayP,runOps,regK,step1,newK,genR,appR,obl,buildR,Value.cells,closeK,keepH,outV,retK,ret1,retC,RetV,Option.getD,runD,stepD,afterK,undef,simprocAttr,sxB,↓sxD,sxE,sxTab]))
 refine ⟨fun m z=>∃i,i≤L1.length∧O1.take i=O2.take i∧m=L1.length-i∧z=smSt M u1 u2 i,⟨L1.length,smSt M u1 u2 0,le_sub ⟨rfl,rfl,rfl,rfl,trivial⟩ trivial rfl rfl rfl (keepLt0 _),⟨0,by omega,rfl,rfl,rfl⟩⟩,?_⟩
 rintro m z ⟨i,hi,hpre,rfl,rfl⟩
 by_cases hlt:i<L1.length
 case neg=>
  have y1:decide ((i:Int)<(L1.length:Int))=false:=by rw[decide_eq_false_iff_not];omega
  have e:decide (O1=O2)=true:=by
   rw[decide_eq_true_eq,←List.take_of_length_le (l:=O1) (i:=i) (by omega),hpre,List.take_of_length_le (by omega)]
  rw[e]at hK
  refine Go1.mk ?_;repeat' ((first|(with_reducible refine Go1.go ?_)|(refine And.intro ?_ ?_;(try simp only[sxO]at *);omega)|fail)<;>(try simp (maxSteps:=1000000) only [smSt,y1,o1,o2,l1,l2,s1,s2,↓hold_pre,awayP,runOps,regK,step1,newK,genR,appR,obl,buildR,Value.cells,closeK,keepH,outV,retK,ret1,retC,RetV,Option.getD,runD,stepD,afterK,undef,simprocAttr,sxB,↓sxD,sxE,sxTab]))
  exact hK
 have hlt2:i<L2.length:=by omega
 have y1:decide ((i:Int)<(L1.length:Int))=true:=by rw[decide_eq_true_eq];omega
 have y2:(0:Int)≤(i:Int):=by omega
 have y3:(i:Int)<(L1.length:Int):=by omega
 have y4:(i:Int)<(L2.length:Int):=by omega
 have wi:IntKind.i64.wrap ((i:Int)+1)=((i+1:Nat):Int):=by rw[wrap_id (by omega) (by omega)];omega
 have n1:=a1.nn hlt
 have n2:=b1.nn hlt2
 have p1:=a1.pt hlt
 have p2:=b1.pt hlt2
 have v1:lookM Tryz.prog 22 M (addP (elemP u1 3 i) 2)=some L1[i].u:=a1.atF (P:=Tryz.prog) (T:=22) (fun _=>rfl) tk22 tz22 hlt (o:=2) (v:=L1[i].u) rfl
 have v2:lookM Tryz.prog 22 M (addP (elemP u2 3 i) 2)=some L2[i].u:=b1.atF (P:=Tryz.prog) (T:=22) (fun _=>rfl) tk22 tz22 hlt2 (o:=2) (v:=L2[i].u) rfl
 obtain ⟨c1,c2⟩:=a2 _ (List.getElem_mem hlt)
 obtain ⟨c3,c4⟩:=b2 _ (List.getElem_mem hlt2)
 have co1:=c1.one
 have co2:=c2.one
 have co3:=c3.one
 have co4:=c4.one
 have f1:O1[i]'(by omega)=L1[i].o:=by simp only[←a3,List.getElem_map]
 have f2:O2[i]'(by omega)=L2[i].o:=by simp only[←b3,List.getElem_map]
 obtain ⟨k1,k2,k3⟩:=hO1.at_ _ (List.getElem_mem (show i<O1.length by omega))
 obtain ⟨k4,k5,k6⟩:=hO2.at_ _ (List.getElem_mem (show i<O2.length by omega))
 rw[f1]at k1 k2 k3
 rw[f2]at k4 k5 k6
 have k2:L1[i].l.length≤64:=k2
 have k3:L1[i].C.length<1000000:=k3
 have k5:L2[i].l.length≤64:=k5
 have k6:L2[i].C.length<1000000:=k6
 have w1:lookM Tryz.prog 41 M (addP (elemP u1 3 i) 0)=some (.agg #[.string (bs L1[i].m),L1[i].y]):=a1.part (fun _=>rfl) tk41 tz41 hlt (o:=0) (by decide)
 have w2:lookM Tryz.prog 41 M (addP (elemP u2 3 i) 0)=some (.agg #[.string (bs L2[i].m),L2[i].y]):=b1.part (fun _=>rfl) tk41 tz41 hlt2 (o:=0) (by decide)
 have hstep:O1.take (i+1)=O2.take (i+1)↔L1[i].o=L2[i].o:=by
  rw[List.take_succ_eq_append_getElem (by omega),List.take_succ_eq_append_getElem (by omega),hpre,f1,f2]
  simp
 have hneq:L1[i].o≠L2[i].o→decide (O1=O2)=false:=fun hne=>by
  rw[decide_eq_false_iff_not]
  intro e
  exact hne (hstep.1 (by rw[e]))
 clear f1 f2 k1 k4
 generalize L1[i]=g1 at *
 generalize L2[i]=g2 at *
 obtain ⟨m1,x1,C1,t1,j1⟩:=g1
 obtain ⟨m2,x2,C2,t2,j2⟩:=g2
 refine Go1.mk ?_;repeat' ((first|(with_reducible refine Go1.go ?_)|(((with_reducible refine isCall0 (f:=48) ?_);refine callA0_nil (by kernel_rfl) ?_;refine (refCompare_ok m1 m2 x1 x2 C1 C2 c1 c3 (Nat.lt_trans k3 (by decide)) (Nat.lt_trans k6 (by decide)) (Stop.mk ?_))))|((with_reducible refine isDraw [some 17,some 18,some 19,some 20,some 21,some 22,some 23,some 24,some 25,some 26,some 27,some 28,some 29,some 30,some 31,some 32,some 33,some 34,some 35,some 36,some 37,some 38,some 39,some 40,some 41,some 42] (by decide) ?_);refine draw_rule [(0,[]),(1,[]),(2,[]),(3,[]),(4,[]),(5,[4]),(6,[4]),(7,[4]),(8,[4]),(9,[4]),(10,[]),(11,[]),(12,[]),(13,[]),(14,[]),(15,[]),(16,[]),(17,[]),(18,[17]),(19,[17]),(20,[17]),(21,[17]),(22,[17]),(23,[]),(24,[]),(25,[])] [[],[],[0,1],[0,1,2],[0,1,2,3],[],[],[5,6],[5,6,7],[5,6,7,8],[0,1,2,3,4,5,6,7,8,9],[0,1,2,3,4,5,6,7,8,9,10],[0,1,2,3,4,5,6,7,8,9,10,11],[0,1,2,3,4,5,6,7,8,9,10,11,12],[0,1,2,3,4,5,6,7,8,9,10,11,12],[0,1,2,3,4,5,6,7,8,9,10,11,12,13,14],[0,1,2,3,4,5,6,7,8,9,10,11,12,13,14,15],[0,1,2,3,4,5,6,7,8,9,10,11,12,13,14,15,16],[0,1,2,3,4,5,6,7,8,9,10,11,12],[0,1,2,3,4,5,6,7,8,9,10,11,12],[0,1,2,3,4,5,6,7,8,9,10,11,12,18,19],[0,1,2,3,4,5,6,7,8,9,10,11,12,18,19,20],[0,1,2,3,4,5,6,7,8,9,10,11,12,18,19,20,21],[0,1,2,3,4,5,6,7,8,9,10,11,12,13,14,15,16,17,18,19,20,21,22],[0,1,2,3,4,5,6,7,8,9,10,11,12,13,14,15,16,17,18,19,20,21,22,23],[0,1,2,3,4,5,6,7,8,9,10,11,12,13,14,15,16,17,18,19,20,21,22,23,24]] [17,18,19,20,21,22,23,24,25,26,30,31,32,33,34,35,36,37,38,39] [] (by kernel_rfl) (by kernel_rfl) (by kernel_rfl) (by kernel_rfl) (by exact trivial) ?_)|(refine And.intro ?_ ?_;(try simp only[sxO]at *);omega)|fail)<;>(try simp (maxSteps:=1000000) only [smSt,y1,y2,y3,y4,n1,n2,p1,p2,v1,v2,w1,w2,co1,co2,co3,co4,o1,o2,l1,l2,s1,s2,↓hold_pre,awayP,runOps,regK,step1,newK,genR,appR,obl,buildR,Value.cells,closeK,keepH,outV,retK,ret1,retC,RetV,Option.getD,runD,stepD,afterK,undef,simprocAttr,sxB,↓sxD,sxE,sxTab]))
 obtain ⟨cz,hcz⟩:∃cz,cz=cmpG (m1,C1) (m2,C2):=⟨_,rfl⟩
 have hz:=cmp_G.zero (m1,C1) (m2,C2)
 rw[←hcz]at hz ⊢
 by_cases hc0:cz=0
 case neg=>
  have d2:decide (cz=0)=false:=decide_eq_false hc0
  rw[hneq (fun e=>hc0 (hz.2 (congrArg Prod.fst e)))]at hK
  refine Stop.go ?_
  refine Go1.mk ?_;repeat' ((first|(with_reducible refine Go1.go ?_)|(refine And.intro ?_ ?_;(try simp only[sxO]at *);omega)|fail)<;>(try simp (maxSteps:=1000000) only [d2,o1,o2,↓hold_pre,awayP,runOps,regK,step1,newK,genR,appR,obl,buildR,Value.cells,closeK,keepH,outV,retK,ret1,retC,RetV,Option.getD,runD,stepD,afterK,undef,simprocAttr,sxB,↓sxD,sxE,sxTab]))
  exact hK
 have d2:decide (cz=0)=true:=decide_eq_true hc0
 refine Stop.go ?_
 refine Go1.mk ?_;repeat' ((first|(with_reducible refine Go1.go ?_)|(((with_reducible refine isCall0 (f:=11) ?_);refine callA0_nil (by kernel_rfl) ?_;refine (sameInts_ok t1 t2 _ _ c2.nat c4.nat (by rw[List.length_map];exact Nat.lt_of_le_of_lt k2 (by decide)) (by rw[List.length_map];exact Nat.lt_of_le_of_lt k5 (by decide)) (Stop.mk ?_))))|(refine And.intro ?_ ?_;(try simp only[sxO]at *);omega)|fail)<;>(try simp (maxSteps:=1000000) only [d2,y1,y2,y3,y4,n1,n2,p1,p2,v1,v2,w1,w2,co1,co2,co3,co4,o1,o2,l1,l2,s1,s2,↓hold_pre,awayP,runOps,regK,step1,newK,genR,appR,obl,buildR,Value.cells,closeK,keepH,outV,retK,ret1,retC,RetV,Option.getD,runD,stepD,afterK,undef,simprocAttr,sxB,↓sxD,sxE,sxTab]))
 have hij:(j1.map fun (x:Nat)=>(x:Int))=(j2.map fun (x:Nat)=>(x:Int))↔j1=j2:=⟨fun h=>List.map_inj_right (fun a b e=>Int.ofNat.inj e) |>.1 h,fun h=>by rw[h]⟩
 by_cases hj:j1=j2
 case neg=>
  have d3:decide ((j1.map fun (x:Nat)=>(x:Int))=(j2.map fun (x:Nat)=>(x:Int)))=false:=decide_eq_false fun h=>hj (hij.1 h)
  rw[hneq (fun e=>hj (congrArg Prod.snd e))]at hK
  rw[d3]
  refine Stop.go ?_
  refine Go1.mk ?_;repeat' ((first|(with_reducible refine Go1.go ?_)|(refine And.intro ?_ ?_;(try simp only[sxO]at *);omega)|fail)<;>(try simp (maxSteps:=1000000) only [o1,o2,↓hold_pre,awayP,runOps,regK,step1,newK,genR,appR,obl,buildR,Value.cells,closeK,keepH,outV,retK,ret1,retC,RetV,Option.getD,runD,stepD,afterK,undef,simprocAttr,sxB,↓sxD,sxE,sxTab]))
  exact hK
 have d3:decide ((j1.map fun (x:Nat)=>(x:Int))=(j2.map fun (x:Nat)=>(x:Int)))=true:=decide_eq_true (hij.2 hj)
 rw[d3]
 refine Stop.go ?_
 refine Go1.mk ?_;repeat' ((first|(with_reducible refine Go1.go ?_)|(refine And.intro ?_ ?_;(try simp only[sxO]at *);omega)|fail)<;>(try simp (maxSteps:=1000000) only [wi,o1,o2,↓hold_pre,awayP,runOps,regK,step1,newK,genR,appR,obl,buildR,Value.cells,closeK,keepH,outV,retK,ret1,retC,RetV,Option.getD,runD,stepD,afterK,undef,simprocAttr,sxB,↓sxD,sxE,sxTab]))
 exact ⟨L1.length-(i+1),smSt M u1 u2 (i+1),by omega,le_sub ⟨rfl,rfl,rfl,rfl,trivial⟩ trivial rfl rfl rfl (keepLt0 _),i+1,by omega,hstep.2 (Prod.ext (hz.1 hc0) hj),rfl,rfl⟩
end
def clF(X:List Stk):List AV:=(X.flatMap clC).map .ext
theorem clF_len(X:List Stk):(clF X).length=X.length*3:=by
 unfold clF
 rw[List.length_map,flat_len (z:=3) (fun _=>rfl)]
theorem clF_ment(X:List Stk):mentL (clF X)=[]:=mentL_ext _
theorem clF_kill(k:Nat)(X:List Stk):killL k (clF X)=clF X:=killL_exts _ _
theorem clF_app(X:List Stk)(s:Bst×Bst×Int):clF X++[.ext (.string (bs s.1)),.ext (.string (bs s.2.1)),.ext (.int .i64 s.2.2)]=clF (X++[s]):=by simp[clF,clC]
def faF(X:List Fa):List AV:=(X.flatMap faC).map .ext
theorem faF_len(X:List Fa):(faF X).length=X.length*5:=by
 unfold faF
 rw[List.length_map,flat_len (z:=5) (fun _=>rfl)]
theorem faF_ment(X:List Fa):mentL (faF X)=[]:=mentL_ext _
theorem faF_kill(k:Nat)(X:List Fa):killL k (faF X)=faF X:=killL_exts _ _
theorem faF_app(X:List Fa)(p t:Bst)(e:Int)(m:Bst)(u:Value)(C:List Stk):faF X++[.ext (.string (bs p)),.ext (.string (bs t)),.ext (.int .i64 e),.ext (.string (bs m)),.ext u]=faF (X++[(p,t,e,m,u,C)]):=by simp[faF,faC]
theorem FrzF.fail{K:AV→Hp→Mem→Prop}{H H2:Hp}{M':Mem}{k n:Nat}{T:TypeId}{a b c d:Value}(cs:List Value)(h1:lkH H k=none)(h2:cs.length=n*3)(h3:hasK k (mentH H2)=false)(h4:lkH H2 k=none)(h:∀u M'',Mem.le M' M''→SlM M'' 3 u n cs→FreshS M' u→K (.ext (.agg #[a,b,c,d,u])) H2 M''):FrzF K H (.ag false [.ext a,.ext b,.ext c,.ext d,.slo k 0 n 3]) ((k,T,cs.map .ext) :: H2) M':=
 .inr ⟨some false,[.ext a,.ext b,.ext c,.ext d],[],k,n,3,T,cs,H2,rfl,rfl,h4,h1,h2,by simp[mentL,AV.ment,hasK,h3],fun u M'' x y z=>h u M'' x y z⟩
structure drF (least:Nat) (f:Fa):Prop where
 pk:f.1=[112]
 ts:f.2.1.length=1
 e0:0≤f.2.2.1
 e1:f.2.2.1≤1
 l0:least≤f.2.2.2.2.2.length
 l1:f.2.2.2.2.2.length≤least+3
 cs:∀c∈f.2.2.2.2.2,c.1.length=1∧c.2.1=[120,46,103,111]
theorem drF.noE{least:Nat}{f:Fa}(h:drF least f)(hl:least≤50):faE f=0:=by
 obtain ⟨h1,h2,h3,h4,_,h5,_⟩:=h
 have e1:usB f.1 f.2.1=true:=by unfold usB;rw[h1,h2];decide
 have e2:plB f.2.2.1=true:=by unfold plB;simp[h3];omega
 unfold faE
 rw[e1,e2]
 simp only[Bool.and_self,if_true]
 rw[if_neg (by omega)]
section
variable {M:Mem}{K:AV→Hp→Mem→Prop}
def flSt(M:Mem)(v:Value)(m:Bst)(i:Nat)(X:List Stk):St:={env:=[(6,.ext (.int .i64 (i:Int))),(5,.own 105 0),(4,.own 104 0),(1,.ext v)],hp:=[(105,32,[.ext (.string (bs [112])),.ext (.string (bs [116])),.ext (.int .i64 0),.ext (.string (bs m)),.slo 125 0 i 3]),(125,57,clF X),(104,32,[.ext (.string (bs [])),.ext (.string (bs [])),.ext (.int .i64 0),.ext (.string (bs [])),.ext (.slice none 0 0)])],M:=M,kb:=100,fx:=[]}
def stkF(L:List Bst):List Stk:=L.zipIdx.map fun p=>(p.1,[120,46,103,111],(p.2:Int))
def fl0(M:Mem)(v:Value)(m:Bst):St:={env:=[(6,.ext (.int .i64 0)),(5,.own 105 0),(4,.own 104 0),(1,.ext v)],hp:=[(105,32,[.ext (.string (bs [112])),.ext (.string (bs [116])),.ext (.int .i64 0),.ext (.string (bs m)),.ext (.slice none 0 0)]),(104,32,[.ext (.string (bs [])),.ext (.string (bs [])),.ext (.int .i64 0),.ext (.string (bs [])),.ext (.slice none 0 0)])],M:=M,kb:=100,fx:=[]}
theorem fl0_le(M:Mem)(v:Value)(m:Bst):Le (fl0 M v m) (flSt M v m 0 []):=
 (le_nilH (s:=fl0 M v m) 105 4 125 57 32 _ 3 rfl rfl (.inl rfl)).trans (le_sub ⟨rfl,rfl,rfl,rfl,trivial⟩ ⟨rfl,rfl,rfl,trivial⟩ rfl rfl rfl (keepLt_of rfl))
theorem stkF_len(L:List Bst):(stkF L).length=L.length:=by simp[stkF]
theorem stkF_at(L:List Bst)(i:Nat)(h:i<L.length):(stkF L)[i]'(by rw[stkF_len];exact h)=(L[i],[120,46,103,111],(i:Int)):=by simp[stkF]
theorem fail_ok(m:Bst)(v:Value)(L:List Bst)(hv:IsL M sbV v L)(hL:L.length<1000)
  (hK:∀u M',Mem.le M M'→IsR M' 3 clC u (stkF L)→FreshS M u→K (.ext (faV [112] [116] 0 m u)) [] M'):CallS Tryz.prog 15 [.ext (.string (bs m)),.ext v] [] M [] K:=by
 refine CallS.frzF ?_
 refine inlS (cs:=[]) Tryz.mixed Tryz.func15 rfl (by kernel_rfl) 100 rfl rfl ?_
 simp only[Tryz.f15]
 have vo:=hv.one
 have vl:=hv.len
 have vs:=hv.sl
 have n1:bs [112]=⟨#[112]⟩:=rfl
 refine Go1.mk ?_;repeat' ((first|(with_reducible refine Go1.go ?_)|(refine And.intro ?_ ?_;(try simp only[sxO]at *);omega)|fail)<;>(try simp (maxSteps:=1000000) only [vo,vl,vs,bs_mk,bs_app,bs_ext,bs_size,bs_toList,bs_at,bs_cells,List.take_length,imp_ga,guard_pk,guard_pk2,↓hold_pre,awayP,runOps,regK,step1,newK,genR,appR,obl,buildR,Value.cells,closeK,keepH,outV,retK,ret1,retC,RetV,Option.getD,runD,stepD,afterK,undef,simprocAttr,sxB,↓sxD,sxE,sxTab]))
 refine ⟨fun q z=>∃i,q=L.length-i∧i≤L.length∧z=flSt M v m i ((stkF L).take i),⟨L.length,flSt M v m 0 [],Le.trans (le_sub (z:=fl0 M v m) ⟨rfl,rfl,rfl,rfl,trivial⟩ ⟨rfl,rfl,trivial⟩ rfl rfl rfl (keepLt_of rfl)) (fl0_le _ _ _),⟨0,by omega,by omega,rfl⟩⟩,?_⟩
 rintro q z ⟨i,rfl,hi,rfl⟩
 have lX:(clF ((stkF L).take i)).length=i*3:=by rw[clF_len,List.length_take,stkF_len,Nat.min_eq_left hi]
 by_cases hlt:i<L.length
 case neg=>
  obtain rfl:i=L.length:=by omega
  have y1:decide ((L.length:Int)<(L.length:Int))=false:=by simp
  rw[List.take_of_length_le (by rw[stkF_len];exact Nat.le_refl _)]at lX ⊢
  refine Go1.mk ?_;repeat' ((first|(with_reducible refine Go1.go ?_)|(refine And.intro ?_ ?_;(try simp only[sxO]at *);omega)|fail)<;>(try simp (maxSteps:=1000000) only [flSt,y1,vo,vl,vs,lX,clF_ment,clF_kill,hasK_nil,bs_mk,bs_app,bs_ext,bs_size,bs_toList,bs_at,bs_cells,List.take_length,imp_ga,guard_pk,guard_pk2,↓hold_pre,awayP,runOps,regK,step1,newK,genR,appR,obl,buildR,Value.cells,closeK,keepH,outV,retK,ret1,retC,RetV,Option.getD,runD,stepD,afterK,undef,simprocAttr,sxB,↓sxD,sxE,sxTab]))
  exact FrzF.fail ((stkF L).flatMap clC) rfl (by rw[flat_len (z:=3) (fun _=>rfl),stkF_len]) rfl rfl (fun u M'' a b c=>hK u M'' a (by unfold IsR;rw[stkF_len];exact b) c)
 have y1:decide ((i:Int)<(L.length:Int))=true:=by rw[decide_eq_true_eq];omega
 have f1:=hv.idx (P:=Tryz.prog) (T:=9) tk9 tz9 (by omega) hlt
 have wi:IntKind.i64.wrap ((i:Int)+1)=((i+1:Nat):Int):=by rw[wrap_id (by omega) (by omega)];omega
 have hs:=clF_app ((stkF L).take i) (L[i],[120,46,103,111],(i:Int))
 rw[←stkF_at L i hlt,←List.take_succ_eq_append_getElem (by rw[stkF_len];exact hlt)]at hs
 rw[stkF_at L i hlt]at hs
 have hs:clF ((stkF L).take i)++[.ext (.string (bs L[i])),.ext (.string (bs [120,46,103,111])),.ext (.int .i64 (i:Int))]=clF ((stkF L).take (i+1)):=hs
 refine Go1.mk ?_;repeat' ((first|(with_reducible refine Go1.go ?_)|((with_reducible refine isDraw [some 16,some 17,some 18,some 19,some 20,some 21,some 22,some 23,some 24,some 25,some 26,none] (by decide) ?_);refine draw_rule [(0,[]),(1,[]),(2,[1]),(3,[1]),(4,[1]),(5,[1]),(6,[1,5]),(7,[1]),(8,[1]),(9,[]),(10,[]),(11,[])] [[],[0],[],[],[2,3],[2,3,4],[],[2,3,4,5,6],[2,3,4,5,6,7],[0,1,2,3,4,5,6,7,8],[0,1,2,3,4,5,6,7,8,9],[0,1,2,3,4,5,6,7,8,9,10]] [16,17,18,19,20,21,22,23,24] [] (by kernel_rfl) (by kernel_rfl) (by kernel_rfl) (by kernel_rfl) (by exact trivial) ?_)|(refine And.intro ?_ ?_;(try simp only[sxO]at *);omega)|fail)<;>(try simp (maxSteps:=1000000) only [flSt,y1,f1,sbV,wi,hs,maxLen,vo,vl,vs,lX,clF_ment,clF_kill,hasK_nil,Nat.mul_one,bs_mk,bs_app,bs_ext,bs_size,bs_toList,bs_at,bs_cells,List.take_length,imp_ga,guard_pk,guard_pk2,↓hold_pre,awayP,runOps,regK,step1,newK,genR,appR,obl,buildR,Value.cells,closeK,keepH,outV,retK,ret1,retC,RetV,Option.getD,runD,stepD,afterK,undef,simprocAttr,sxB,↓sxD,sxE,sxTab]))
 exact ⟨L.length-(i+1),flSt M v m (i+1) ((stkF L).take (i+1)),by omega,le_sub ⟨rfl,rfl,rfl,rfl,trivial⟩ ⟨rfl,rfl,rfl,trivial⟩ rfl rfl rfl (keepLt_of rfl),i+1,rfl,by omega,rfl⟩
theorem fail_nil(m:Bst)(hK:K (.ext (faV [112] [116] 0 m (.slice none 0 0))) [] M):CallS Tryz.prog 15 [.ext (.string (bs m)),.ext (.slice none 0 0)] [] M [] K:=by
 refine inlS (cs:=[]) Tryz.mixed Tryz.func15 rfl (by kernel_rfl) 100 rfl rfl ?_
 simp only[Tryz.f15]
 have n1:bs [112]=⟨#[112]⟩:=rfl
 refine Go1.mk ?_;repeat' ((first|(with_reducible refine Go1.go ?_)|(refine And.intro ?_ ?_;(try simp only[sxO]at *);omega)|fail)<;>(try simp (maxSteps:=1000000) only [bs_mk,bs_app,bs_ext,bs_size,bs_toList,bs_at,bs_cells,List.take_length,imp_ga,guard_pk,guard_pk2,↓hold_pre,awayP,runOps,regK,step1,newK,genR,appR,obl,buildR,Value.cells,closeK,keepH,outV,retK,ret1,retC,RetV,Option.getD,runD,stepD,afterK,undef,simprocAttr,sxB,↓sxD,sxE,sxTab]))
 refine ⟨fun q z=>q=0∧z=fl0 M (.slice none 0 0) m,⟨0,fl0 M (.slice none 0 0) m,le_sub (z:=fl0 M (.slice none 0 0) m) ⟨rfl,rfl,rfl,rfl,trivial⟩ ⟨rfl,rfl,trivial⟩ rfl rfl rfl (keepLt_of rfl),⟨rfl,rfl⟩⟩,?_⟩
 rintro q z ⟨rfl,rfl⟩
 refine Go1.mk ?_;repeat' ((first|(with_reducible refine Go1.go ?_)|(refine And.intro ?_ ?_;(try simp only[sxO]at *);omega)|fail)<;>(try simp (maxSteps:=1000000) only [fl0,hasK_nil,bs_mk,bs_app,bs_ext,bs_size,bs_toList,bs_at,bs_cells,List.take_length,imp_ga,guard_pk,guard_pk2,↓hold_pre,awayP,runOps,regK,step1,newK,genR,appR,obl,buildR,Value.cells,closeK,keepH,outV,retK,ret1,retC,RetV,Option.getD,runD,stepD,afterK,undef,simprocAttr,sxB,↓sxD,sxE,sxTab]))
 exact hK
theorem fail_bor(m:Bst)(k n:Nat)(T:TypeId)(L:List Bst)(hn:n=L.length)(hL:L.length<1000)
  (hK:∀u M',Mem.le M M'→IsR M' 3 clC u (stkF L)→K (.ext (faV [112] [116] 0 m u)) [(k,T,cE sbV L)] M'):CallS Tryz.prog 15 [.ext (.string (bs m)),.slo k 0 n 1] [(k,T,cE sbV L)] M [] K:=by
 refine CallS.bor ⟨⟨_,rfl⟩,trivial⟩ fun us M' hM hb'=>?_
 obtain ⟨_,_,rfl,rfl,v1,_,rfl,hv,rfl⟩:=hb'
 exact fail_ok m v1 L (hv.isL (T:=T) (by simp[lkH]) hn) hL fun u M2 c1 c2 c3=>⟨fun j hj=>rfl,fun M3 h5 h6 _=>hK u M3 h5 (SlM.move c2 c3 h6)⟩
def msL:List Bst:=[[],[97,32,49],[97,32,50],[98],[99],[100],[101,47,102]]
def tsL:List Bst:=[[116],[117]]
def fnL:List Bst:=[[102],[103],[104],[105],[106]]
def tpH(u:Value)(p:Nat):List AV:=[.ext u,.ext (.int .i64 (p:Int))]
def fuSt(M:Mem)(u:Value)(p:Nat)(ts m:Bst)(e:Int)(c i:Nat)(X:List Stk):St:={env:=[(6,.ext (.int .i64 (c:Int))),(5,.own 105 0),(4,.own 104 0),(0,.own 40 0)],hp:=[(105,32,[.ext (.string (bs [112])),.ext (.string (bs ts)),.ext (.int .i64 e),.ext (.string (bs m)),.slo 136 0 i 3]),(136,57,clF X),(104,32,[.ext (.string (bs [])),.ext (.string (bs [])),.ext (.int .i64 0),.ext (.string (bs [])),.ext (.slice none 0 0)]),(40,25,tpH u p)],M:=M,kb:=100,fx:=[40]}
def fu0(M:Mem)(u:Value)(p:Nat)(ts m:Bst)(e:Int)(c:Nat):St:={env:=[(6,.ext (.int .i64 (c:Int))),(5,.own 105 0),(4,.own 104 0),(0,.own 40 0)],hp:=[(105,32,[.ext (.string (bs [112])),.ext (.string (bs ts)),.ext (.int .i64 e),.ext (.string (bs m)),.ext (.slice none 0 0)]),(104,32,[.ext (.string (bs [])),.ext (.string (bs [])),.ext (.int .i64 0),.ext (.string (bs [])),.ext (.slice none 0 0)]),(40,25,tpH u p)],M:=M,kb:=100,fx:=[40]}
theorem fu0_le(M:Mem)(u:Value)(p:Nat)(ts m:Bst)(e:Int)(c:Nat):Le (fu0 M u p ts m e c) (fuSt M u p ts m e c 0 []):=
 (le_nilH (s:=fu0 M u p ts m e c) 105 4 136 57 32 _ 3 rfl rfl (.inl rfl)).trans (le_sub ⟨rfl,rfl,rfl,rfl,trivial⟩ ⟨rfl,rfl,rfl,rfl,trivial⟩ rfl rfl rfl (keepLt_of rfl))
theorem failure_ok(u:Value)(l:List Int)(p least:Nat)(hu:IsL M intV64 u l)(hp:p<900000)(hl:least≤10)
  (hK:∀(f:Fa) M' p',Mem.le M M'→p'≤p+100→drF least f→faOk M' f→FreshS M f.2.2.2.2.1→K (.ext (faV f.1 f.2.1 f.2.2.1 f.2.2.2.1 f.2.2.2.2.1)) [(40,25,tpH u p')] M'):CallS Tryz.prog 5 [.own 40 0,.ext (.int .i64 (least:Int))] [(40,25,tpH u p)] M [] K:=by
 refine CallS.frzF ?_
 refine inlS (cs:=[]) Tryz.mixed Tryz.func5 rfl (by kernel_rfl) 100 rfl rfl ?_
 simp only[Tryz.f5]
 have uo:=hu.one
 have n1:[AV.ext (.string (bs [])),.ext (.string (bs [97,32,49])),.ext (.string (bs [97,32,50])),.ext (.string (bs [98])),.ext (.string (bs [99])),.ext (.string (bs [100])),.ext (.string (bs [101,47,102]))]=cE sbV msL:=rfl
 have n2:[AV.ext (.string (bs [116])),.ext (.string (bs [117]))]=cE sbV tsL:=rfl
 have n3:[AV.ext (.string (bs [102])),.ext (.string (bs [103])),.ext (.string (bs [104])),.ext (.string (bs [105])),.ext (.string (bs [106]))]=cE sbV fnL:=rfl
 refine Go1.mk ?_;repeat' ((first|(with_reducible refine Go1.go ?_)|((with_reducible refine isCall (f:=16) ?_);refine callA ?_)|((with_reducible refine isCall0 (f:=16) ?_);refine callA0 ?_)|((with_reducible refine isCallS (f:=16) ?_);refine (one_ok 40 108 (by decide) u l _ msL _ _ (by rfl) hu (by omega) (by decide) (by decide) (fun i hi=>Stop.mk ?_)))|(refine And.intro ?_ ?_;(try simp only[sxO]at *);omega)|fail)<;>(try simp (maxSteps:=1000000) only [tpH,faV,uo,n1,cE_ment,cE_kill,hasK_nil,bs_mk,bs_app,bs_ext,bs_size,bs_toList,bs_at,bs_cells,List.take_length,imp_ga,guard_pk,guard_pk2,↓hold_pre,awayP,runOps,regK,step1,newK,genR,appR,obl,buildR,Value.cells,closeK,keepH,outV,retK,ret1,retC,RetV,Option.getD,runD,stepD,afterK,undef,simprocAttr,sxB,↓sxD,sxE,sxTab]))
 have hm3:(msL[i]).length≤3:=(show ∀x∈msL,x.length≤3 by decide) _ (List.getElem_mem hi)
 generalize msL[i]=m at *
 refine Stop.go ?_
 refine Go1.mk ?_;repeat' ((first|(with_reducible refine Go1.go ?_)|(((with_reducible refine isCall (f:=15) ?_);refine callA_nil (by kernel_rfl) ?_;refine (fail_nil m ?_)))|((with_reducible refine isCall (f:=16) ?_);refine callA ?_)|((with_reducible refine isCall0 (f:=16) ?_);refine callA0 ?_)|((with_reducible refine isCallS (f:=16) ?_);refine (one_ok 40 112 (by decide) u l _ tsL _ _ (by rfl) hu (by omega) (by decide) (by decide) (fun i hi=>Stop.mk ?_)))|(refine And.intro ?_ ?_;(try simp only[sxO]at *);omega)|fail)<;>(try simp (maxSteps:=1000000) only [tpH,faV,sbV,uo,n2,cE_ment,cE_kill,hasK_nil,bs_mk,bs_app,bs_ext,bs_size,bs_toList,bs_at,bs_cells,List.take_length,imp_ga,guard_pk,guard_pk2,↓hold_pre,awayP,runOps,regK,step1,newK,genR,appR,obl,buildR,Value.cells,closeK,keepH,outV,retK,ret1,retC,RetV,Option.getD,runD,stepD,afterK,undef,simprocAttr,sxB,↓sxD,sxE,sxTab]))
 have ht1:(tsL[i]).length=1:=(show ∀x∈tsL,x.length=1 by decide) _ (List.getElem_mem _)
 generalize tsL[i]=ts at *
 refine Stop.go ?_
 refine Go1.mk ?_;repeat' ((first|(with_reducible refine Go1.go ?_)|((with_reducible refine isCall (f:=8) ?_);refine callA ?_)|((with_reducible refine isCall0 (f:=8) ?_);refine callA0 ?_)|((with_reducible refine isCallS (f:=8) ?_);refine (nextI_ok 40 u l _ _ hu (by omega) (by omega) (by omega) (fun e he0 he1=>Stop.mk ?_)))|(refine And.intro ?_ ?_;(try simp only[sxO]at *);omega)|fail)<;>(try simp (maxSteps:=1000000) only [tpH,faV,sbV,uo,n2,cE_ment,cE_kill,hasK_nil,bs_mk,bs_app,bs_ext,bs_size,bs_toList,bs_at,bs_cells,List.take_length,imp_ga,guard_pk,guard_pk2,↓hold_pre,awayP,runOps,regK,step1,newK,genR,appR,obl,buildR,Value.cells,closeK,keepH,outV,retK,ret1,retC,RetV,Option.getD,runD,stepD,afterK,undef,simprocAttr,sxB,↓sxD,sxE,sxTab]))
 refine Stop.go ?_
 refine Go1.mk ?_;repeat' ((first|(with_reducible refine Go1.go ?_)|((with_reducible refine isCall (f:=8) ?_);refine callA ?_)|((with_reducible refine isCall0 (f:=8) ?_);refine callA0 ?_)|((with_reducible refine isCallS (f:=8) ?_);refine (nextI_ok 40 u l _ _ hu (by omega) (by omega) (by omega) (fun x hx0 hx1=>Stop.mk ?_)))|(refine And.intro ?_ ?_;(try simp only[sxO]at *);omega)|fail)<;>(try simp (maxSteps:=1000000) only [tpH,faV,sbV,uo,cE_ment,cE_kill,hasK_nil,bs_mk,bs_app,bs_ext,bs_size,bs_toList,bs_at,bs_cells,List.take_length,imp_ga,guard_pk,guard_pk2,↓hold_pre,awayP,runOps,regK,step1,newK,genR,appR,obl,buildR,Value.cells,closeK,keepH,outV,retK,ret1,retC,RetV,Option.getD,runD,stepD,afterK,undef,simprocAttr,sxB,↓sxD,sxE,sxTab]))
 obtain ⟨y,rfl⟩:=Int.eq_ofNat_of_zero_le hx0
 have wy:IntKind.i64.wrap ((least:Int)+(y:Int))=((least+y:Nat):Int):=by rw[wrap_id (by omega) (by omega)];omega
 refine Stop.go ?_
 refine Go1.mk ?_;repeat' ((first|(with_reducible refine Go1.go ?_)|(refine And.intro ?_ ?_;(try simp only[sxO]at *);omega)|fail)<;>(try simp (maxSteps:=1000000) only [tpH,faV,sbV,wy,uo,cE_ment,cE_kill,hasK_nil,bs_mk,bs_app,bs_ext,bs_size,bs_toList,bs_at,bs_cells,List.take_length,imp_ga,guard_pk,guard_pk2,↓hold_pre,awayP,runOps,regK,step1,newK,genR,appR,obl,buildR,Value.cells,closeK,keepH,outV,retK,ret1,retC,RetV,Option.getD,runD,stepD,afterK,undef,simprocAttr,sxB,↓sxD,sxE,sxTab]))
 refine ⟨fun d z=>∃c p' X,d=c∧c+X.length=least+y∧p'≤p+4+2*X.length∧(∀s∈X,s.1.length=1∧s.2.1=[120,46,103,111])∧z=fuSt M u p' ts m e c X.length X,⟨least+y,fuSt M u (p+1+1+1+1) ts m e (least+y) 0 [],Le.trans (le_sub (z:=fu0 M u (p+1+1+1+1) ts m e (least+y)) ⟨rfl,rfl,rfl,rfl,trivial⟩ ⟨rfl,rfl,rfl,trivial⟩ rfl rfl rfl (keepLt_of rfl)) (fu0_le _ _ _ _ _ _ _),⟨_,_,[],rfl,rfl,by simp,(fun s hs=>by cases hs),rfl⟩⟩,?_⟩
 rintro d z ⟨c,p',X,rfl,hcX,hp',hX,rfl⟩
 have lX:=clF_len X
 by_cases hc:0<d
 case neg=>
  obtain rfl:d=0:=by omega
  have d1:decide ((0:Int)<((0:Nat):Int))=false:=by decide
  refine Go1.mk ?_;repeat' ((first|(with_reducible refine Go1.go ?_)|(refine And.intro ?_ ?_;(try simp only[sxO]at *);omega)|fail)<;>(try simp (maxSteps:=1000000) only [tpH,fuSt,d1,lX,clF_ment,clF_kill,uo,hasK_nil,bs_mk,bs_app,bs_ext,bs_size,bs_toList,bs_at,bs_cells,List.take_length,imp_ga,guard_pk,guard_pk2,↓hold_pre,awayP,runOps,regK,step1,newK,genR,appR,obl,buildR,Value.cells,closeK,keepH,outV,retK,ret1,retC,RetV,Option.getD,runD,stepD,afterK,undef,simprocAttr,sxB,↓sxD,sxE,sxTab]))
  refine FrzF.fail (X.flatMap clC) rfl (by rw[flat_len (z:=3) (fun _=>rfl)]) rfl rfl (fun v M'' a b g=>?_)
  exact hK ([112],ts,e,m,v,X) M'' p' a (by omega) ⟨rfl,ht1,he0,by show e≤1;omega,by show least≤X.length;omega,by show X.length≤least+3;omega,hX⟩ ⟨b,by show X.length<_;omega,by show m.length<_;omega,fun c hc=>by
   obtain ⟨a1,a2⟩:=hX c hc
   exact ⟨by omega,by rw[a2];decide⟩⟩ g
 have d1:decide ((0:Int)<(d:Int))=true:=by simp;omega
 have wd:IntKind.i64.wrap ((d:Int)-1)=((d-1:Nat):Int):=by rw[wrap_id (by omega) (by omega)];omega
 refine Go1.mk ?_;repeat' ((first|(with_reducible refine Go1.go ?_)|((with_reducible refine isCall (f:=16) ?_);refine callA ?_)|((with_reducible refine isCall0 (f:=16) ?_);refine callA0 ?_)|((with_reducible refine isCallS (f:=16) ?_);refine (one_ok 40 130 (by decide) u l _ fnL _ _ (by rfl) hu (by omega) (by decide) (by decide) (fun i hi=>Stop.mk ?_)))|((with_reducible refine isDraw [some 27,some 28,some 29,some 30,some 31,some 32,some 33,some 34,some 35,some 36,some 37,none] (by decide) ?_);refine draw_rule [(0,[]),(1,[]),(2,[1]),(3,[1]),(5,[1]),(4,[1]),(6,[1]),(7,[1]),(8,[1]),(9,[]),(10,[]),(11,[])] [[],[0],[],[],[2,3],[],[2,3,4,5],[2,3,4,5,6],[2,3,4,5,6,7],[0,1,2,3,4,5,6,7,8],[0,1,2,3,4,5,6,7,8,9],[0,1,2,3,4,5,6,7,8,9,10]] [27,28,29,30,31,32,33,34,35] [] (by kernel_rfl) (by kernel_rfl) (by kernel_rfl) (by kernel_rfl) (by exact trivial) ?_)|(refine And.intro ?_ ?_;(try simp only[sxO]at *);omega)|fail)<;>(try simp (maxSteps:=1000000) only [tpH,fuSt,d1,n3,lX,clF_ment,clF_kill,cE_ment,cE_kill,uo,hasK_nil,bs_mk,bs_app,bs_ext,bs_size,bs_toList,bs_at,bs_cells,List.take_length,imp_ga,guard_pk,guard_pk2,↓hold_pre,awayP,runOps,regK,step1,newK,genR,appR,obl,buildR,Value.cells,closeK,keepH,outV,retK,ret1,retC,RetV,Option.getD,runD,stepD,afterK,undef,simprocAttr,sxB,↓sxD,sxE,sxTab]))
 have hf1:(fnL[i]).length=1:=(show ∀x∈fnL,x.length=1 by decide) _ (List.getElem_mem _)
 generalize fnL[i]=fn at *
 refine Stop.go ?_
 refine Go1.mk ?_;repeat' ((first|(with_reducible refine Go1.go ?_)|((with_reducible refine isCall (f:=8) ?_);refine callA ?_)|((with_reducible refine isCall0 (f:=8) ?_);refine callA0 ?_)|((with_reducible refine isCallS (f:=8) ?_);refine (nextI_ok 40 u l _ _ hu (by omega) (by omega) (by omega) (fun q hq0 hq1=>Stop.mk ?_)))|(refine And.intro ?_ ?_;(try simp only[sxO]at *);omega)|fail)<;>(try simp (maxSteps:=1000000) only [tpH,fuSt,sbV,d1,n3,lX,clF_ment,clF_kill,cE_ment,cE_kill,uo,hasK_nil,bs_mk,bs_app,bs_ext,bs_size,bs_toList,bs_at,bs_cells,List.take_length,imp_ga,guard_pk,guard_pk2,↓hold_pre,awayP,runOps,regK,step1,newK,genR,appR,obl,buildR,Value.cells,closeK,keepH,outV,retK,ret1,retC,RetV,Option.getD,runD,stepD,afterK,undef,simprocAttr,sxB,↓sxD,sxE,sxTab]))
 have hs:=clF_app X (fn,[120,46,103,111],q)
 have hs:clF X++[.ext (.string (bs fn)),.ext (.string (bs [120,46,103,111])),.ext (.int .i64 q)]=clF (X++[(fn,[120,46,103,111],q)]):=hs
 refine Stop.go ?_
 refine Go1.mk ?_;repeat' ((first|(with_reducible refine Go1.go ?_)|(refine And.intro ?_ ?_;(try simp only[sxO]at *);omega)|fail)<;>(try simp (maxSteps:=1000000) only [tpH,fuSt,sbV,d1,wd,hs,maxLen,lX,clF_ment,clF_kill,cE_ment,cE_kill,uo,Nat.mul_one,hasK_nil,bs_mk,bs_app,bs_ext,bs_size,bs_toList,bs_at,bs_cells,List.take_length,imp_ga,guard_pk,guard_pk2,↓hold_pre,awayP,runOps,regK,step1,newK,genR,appR,obl,buildR,Value.cells,closeK,keepH,outV,retK,ret1,retC,RetV,Option.getD,runD,stepD,afterK,undef,simprocAttr,sxB,↓sxD,sxE,sxTab]))
 exact ⟨d-1,fuSt M u (p'+1+1) ts m e (d-1) (X++[(fn,[120,46,103,111],q)]).length (X++[(fn,[120,46,103,111],q)]),by omega,le_sub ⟨rfl,rfl,rfl,rfl,trivial⟩ ⟨by simp[lkH,fuSt],by simp[lkH,fuSt],rfl,rfl,trivial⟩ rfl rfl rfl (keepLt_of rfl),d-1,p'+1+1,_,rfl,by rw[List.length_append,List.length_singleton];omega,by rw[List.length_append,List.length_singleton];omega,(fun s hs=>by
  rcases List.mem_append.1 hs with hs|hs
  ·exact hX s hs
  ·rw[List.mem_singleton.1 hs];exact ⟨hf1,rfl⟩),rfl⟩
def fsSt(M:Mem)(u:Value)(p least c n:Nat)(X:List Fa):St:={env:=[(8,.ext (.int .i64 (c:Int))),(7,.slo 122 0 n 5),(2,.ext (.int .i64 (least:Int))),(0,.own 40 0)],hp:=[(122,32,faF X),(40,25,tpH u p)],M:=M,kb:=100,fx:=[40]}
theorem failuresO_ok(u:Value)(l:List Int)(p most least:Nat)(hu:IsL M intV64 u l)(hp:p<10000)(hm:most<1000)(hl:least≤10)
  (hK:∀n (X:List Fa) M' p',Mem.le M M'→n=X.length→X.length≤most→p'≤p+1+100*most→(∀f∈X,drF least f∧faOk M' f)→K (.slo 122 0 n 5) [(122,32,faF X),(40,25,tpH u p')] M'):CallS Tryz.prog 4 [.own 40 0,.ext (.int .i64 (most:Int)),.ext (.int .i64 (least:Int))] [(40,25,tpH u p)] M [] K:=by
 refine inlS (cs:=[]) Tryz.mixed Tryz.func4 rfl (by kernel_rfl) 100 rfl rfl ?_
 simp only[Tryz.f4]
 have uo:=hu.one
 have wm:IntKind.i64.wrap ((most:Int)+1)=((most+1:Nat):Int):=by rw[wrap_id (by omega) (by omega)];omega
 refine Go1.mk ?_;repeat' ((first|(with_reducible refine Go1.go ?_)|((with_reducible refine isCall (f:=8) ?_);refine callA ?_)|((with_reducible refine isCallS (f:=8) ?_);refine (nextI_ok 40 u l _ _ hu (by omega) (by omega) (by omega) (fun x hx0 hx1=>Stop.mk ?_)))|(refine And.intro ?_ ?_;(try simp only[sxO]at *);omega)|fail)<;>(try simp (maxSteps:=1000000) only [tpH,uo,wm,hasK_nil,↓hold_pre,awayP,runOps,regK,step1,newK,genR,appR,obl,buildR,Value.cells,closeK,keepH,outV,retK,ret1,retC,RetV,Option.getD,runD,stepD,afterK,undef,simprocAttr,sxB,↓sxD,sxE,sxTab]))
 obtain ⟨y,rfl⟩:=Int.eq_ofNat_of_zero_le hx0
 refine Stop.go ?_
 refine Go1.mk ?_;repeat' ((first|(with_reducible refine Go1.go ?_)|(refine And.intro ?_ ?_;(try simp only[sxO]at *);omega)|fail)<;>(try simp (maxSteps:=1000000) only [tpH,uo,wm,hasK_nil,↓hold_pre,awayP,runOps,regK,step1,newK,genR,appR,obl,buildR,Value.cells,closeK,keepH,outV,retK,ret1,retC,RetV,Option.getD,runD,stepD,afterK,undef,simprocAttr,sxB,↓sxD,sxE,sxTab]))
 refine ⟨fun d z=>∃M' c p' X,d=c∧c+X.length=y∧p'≤p+1+100*X.length∧Mem.le M M'∧(∀f∈X,drF least f∧faOk M' f)∧z=fsSt M' u p' least c X.length X,⟨y,fsSt M u (p+1) least y 0 [],(le_nil 7 122 32 5 rfl (.inl rfl)).trans (le_sub ⟨rfl,rfl,rfl,rfl,trivial⟩ ⟨rfl,rfl,trivial⟩ rfl rfl rfl (keepLt_of rfl)),⟨M,_,_,[],rfl,rfl,by simp,Mem.le.refl _,(fun s hs=>by cases hs),rfl⟩⟩,?_⟩
 rintro d z ⟨M1,c,p',X,rfl,hcX,hp',m1,hX,rfl⟩
 have lX:=faF_len X
 by_cases hc:0<d
 case neg=>
  obtain rfl:d=0:=by omega
  have d1:decide ((0:Int)<((0:Nat):Int))=false:=by decide
  refine Go1.mk ?_;repeat' ((first|(with_reducible refine Go1.go ?_)|(refine And.intro ?_ ?_;(try simp only[sxO]at *);omega)|fail)<;>(try simp (maxSteps:=1000000) only [tpH,fsSt,d1,lX,faF_ment,faF_kill,uo,hasK_nil,↓hold_pre,awayP,runOps,regK,step1,newK,genR,appR,obl,buildR,Value.cells,closeK,keepH,outV,retK,ret1,retC,RetV,Option.getD,runD,stepD,afterK,undef,simprocAttr,sxB,↓sxD,sxE,sxTab]))
  exact hK X.length X M1 p' m1 rfl (by omega) (by omega) hX
 have d1:decide ((0:Int)<(d:Int))=true:=by simp;omega
 have wd:IntKind.i64.wrap ((d:Int)-1)=((d-1:Nat):Int):=by rw[wrap_id (by omega) (by omega)];omega
 refine Go1.mk ?_;repeat' ((first|(with_reducible refine Go1.go ?_)|((with_reducible refine isCall (f:=5) ?_);refine callA ?_)|((with_reducible refine isCallS (f:=5) ?_);refine (failure_ok u l p' least (hu.le m1) (by omega) hl (fun f M2 p2 m2 hp2 hd hf _=>Stop.mk ?_)))|(refine And.intro ?_ ?_;(try simp only[sxO]at *);omega)|fail)<;>(try simp (maxSteps:=1000000) only [tpH,fsSt,d1,lX,faF_ment,faF_kill,uo,hasK_nil,↓hold_pre,awayP,runOps,regK,step1,newK,genR,appR,obl,buildR,Value.cells,closeK,keepH,outV,retK,ret1,retC,RetV,Option.getD,runD,stepD,afterK,undef,simprocAttr,sxB,↓sxD,sxE,sxTab]))
 have m2:Mem.le M1 M2:=m2
 obtain ⟨pk,ts,e,m,v,C⟩:=f
 have vo:v.oneCell'=true:=hf.1.one
 have hs:=faF_app X pk ts e m v C
 refine Stop.go ?_
 refine Go1.mk ?_;repeat' ((first|(with_reducible refine Go1.go ?_)|(refine And.intro ?_ ?_;(try simp only[sxO]at *);omega)|fail)<;>(try simp (maxSteps:=1000000) only [tpH,fsSt,faV,d1,wd,vo,hs,maxLen,lX,faF_ment,faF_kill,uo,Nat.mul_one,hasK_nil,↓hold_pre,awayP,runOps,regK,step1,newK,genR,appR,obl,buildR,Value.cells,closeK,keepH,outV,retK,ret1,retC,RetV,Option.getD,runD,stepD,afterK,undef,simprocAttr,sxB,↓sxD,sxE,sxTab]))
 exact ⟨d-1,fsSt M2 u p2 least (d-1) (X++[(pk,ts,e,m,v,C)]).length (X++[(pk,ts,e,m,v,C)]),by omega,le_sub ⟨rfl,by simp[lk,fsSt],rfl,rfl,trivial⟩ ⟨by simp[lkH,fsSt],rfl,trivial⟩ rfl rfl rfl (keepLt_of rfl),M2,d-1,p2,_,rfl,by rw[List.length_append,List.length_singleton];omega,by rw[List.length_append,List.length_singleton];omega,m1.trans m2,(fun s hs=>by
  rcases List.mem_append.1 hs with hs|hs
  ·obtain ⟨a,b1,b2,b3,b4⟩:=hX s hs
   exact ⟨a,b1.le m2,b2,b3,b4⟩
  ·rw[List.mem_singleton.1 hs];exact ⟨hd,hf⟩),rfl⟩
theorem failures_ok(u:Value)(l:List Int)(p most least:Nat)(hu:IsL M intV64 u l)(hp:p<10000)(hm:most<1000)(hl:least≤10)
  (hK:∀v (X:List Fa) M' p',Mem.le M M'→IsR M' 5 faC v X→X.length≤most→p'≤p+1+100*most→(∀f∈X,drF least f∧faOk M' f)→K (.ext v) [(40,25,tpH u p')] M'):CallS Tryz.prog 4 [.own 40 0,.ext (.int .i64 (most:Int)),.ext (.int .i64 (least:Int))] [(40,25,tpH u p)] M [] K:=by
 refine CallS.frzF (failuresO_ok u l p most least hu hp hm hl fun n X M1 p1 m1 hn hX hp1 hf=>?_)
 exact .inr ⟨none,[],[],122,n,5,_,X.flatMap faC,_,rfl,rfl,rfl,rfl,by rw[flat_len (z:=5) (fun _=>rfl),hn],rfl,fun v M2 a b c=>hK v X M2 p1 (m1.trans a) (by unfold IsR;rw[←hn];exact b) hX hp1 (fun f hf'=>⟨(hf f hf').1,(hf f hf').2.1.le a,(hf f hf').2.2⟩)⟩
end
theorem GRF.move{M' M'' M3:Mem}{U:Value}{O:List GO}(h:GRF M' M'' U O)(h3:∀b,M' b=none→M3 b=M'' b):GRV M3 U O:=by
 obtain ⟨L,h1,h2,h4,h5⟩:=h
 exact ⟨L,SlM.move h1 h2 h3,fun g hg=>⟨(h4 g hg).1.1.move (h4 g hg).2.1 h3,(h4 g hg).1.2.move (h4 g hg).2.2 h3⟩,h5⟩
theorem isPt_add{v:Value}(o:Nat)(h:isPt v=true):isPt (addP v o)=true:=by
 unfold isPt at h
 split at h
 ·rfl
 ·cases h
theorem addP_addP{v:Value}(a b:Nat)(h:isPt v=true):addP (addP v a) b=addP v (a+b):=by
 unfold isPt at h
 split at h
 ·by_cases ha:a=0<;>by_cases hb:b=0<;>simp[addP,Addr.add,ha,hb,Nat.add_assoc]
 ·cases h
def kn1(v:Value):Fa:=([112],[116],0,[97,32,49],v,stkF [[102],[103]])
def kn2(v:Value):Fa:=([112],[116],0,[98],v,stkF [[102],[103]])
def kn3(v:Value):Fa:=([112],[116],0,[98],v,stkF [])
def knC:List Bst:=[[102,64,120,46,103,111],[103,64,120,46,103,111]]
def knT:List (Bst×List Bst):=[([97,32,35],knC),([98],knC),([98],[])]
theorem kn_T(a b c:Value):[kn1 a,kn2 b,kn3 c].map faB=knT:=by
 show [faB (kn1 (.bool true)),faB (kn2 (.bool true)),faB (kn3 (.bool true))]=knT
 decide +kernel
theorem kn_E2(a b c:Value):sgnE [kn1 a,kn2 b,kn3 c] 2=0:=by
 show sgnE [kn1 (.bool true),kn2 (.bool true),kn3 (.bool true)] 2=0
 decide +kernel
theorem kn_E3(a b c:Value):sgnE [kn1 a,kn2 b,kn3 c] 3=0:=by
 show sgnE [kn1 (.bool true),kn2 (.bool true),kn3 (.bool true)] 3=0
 decide +kernel
theorem lnk_iff{T:List (Bst×List Bst)}{d:Int}{i k:Nat}:lnkR T d i k↔lkB (sgK T d i) (sgK T d k)=true:=lkB_iff.symm
theorem kn_l2:Lab 3 (lnkR knT 2) fun _=>0:=by
 have h01:lnkR knT 2 0 1:=lnk_iff.2 (by decide +kernel)
 have h12:lnkR knT 2 1 2:=lnk_iff.2 (by decide +kernel)
 have c0:∀i,i<3→Conn (lnkR knT 2) 3 0 i:=fun i hi=>by
  match i,hi with
  | 0,_=>exact .refl (by decide)
  | 1,_=>exact .one (by decide) (by decide) h01
  | 2,_=>exact (Conn.one (by decide) (by decide) h01).trans (.one (by decide) (by decide) h12)
 exact ⟨fun i _=>Nat.zero_le _,fun _ _=>rfl,fun _ _ _ _ _=>rfl,fun i k hi hk _=>((c0 i hi).symm lnkR_symm).trans (c0 k hk)⟩
theorem kn_l3:Lab 3 (lnkR knT 3) fun i=>if i=0 then 0 else 1:=by
 have h12:lnkR knT 3 1 2:=lnk_iff.2 (by decide +kernel)
 have n01:¬lnkR knT 3 0 1:=fun h=>absurd (lnk_iff.1 h) (by decide +kernel)
 have n02:¬lnkR knT 3 0 2:=fun h=>absurd (lnk_iff.1 h) (by decide +kernel)
 refine ⟨fun i hi=>by split<;>omega,fun i hi=>by split<;>simp,fun i k hi hk hR=>?_,fun i k hi hk e=>?_⟩
 ·match i,k,hi,hk with
  | 0,0,_,_=>rfl
  | 0,1,_,_=>exact absurd hR n01
  | 0,2,_,_=>exact absurd hR n02
  | 1,0,_,_=>exact absurd (lnkR_symm _ _ hR) n01
  | 2,0,_,_=>exact absurd (lnkR_symm _ _ hR) n02
  | 1,1,_,_=>rfl
  | 1,2,_,_=>rfl
  | 2,1,_,_=>rfl
  | 2,2,_,_=>rfl
 ·match i,k,hi,hk,e with
  | 0,0,_,_,_=>exact .refl (by decide)
  | 1,1,_,_,_=>exact .refl (by decide)
  | 2,2,_,_,_=>exact .refl (by decide)
  | 1,2,_,_,_=>exact .one (by decide) (by decide) h12
  | 2,1,_,_,_=>exact .one (by decide) (by decide) (lnkR_symm _ _ h12)
def knO2:List GO:=[(([97,32,35],knC),[0,1,2])]
def knO3:List GO:=[(([97,32,35],knC),[0]),(([98],[]),[1,2])]
theorem kn_g2:GrpO knT 2 knO2:=⟨_,kn_l2,by decide +kernel⟩
theorem kn_g3:GrpO knT 3 knO3:=⟨_,kn_l3,by decide +kernel⟩
theorem knO3_ok:okO knO3:=⟨by decide,fun o ho=>by
 have:okB o.1.1 o.1.2∧o.2.length≤64∧o.1.2.length<1000000:=by
  rcases List.mem_cons.1 ho with rfl|ho
  ·exact ⟨⟨by decide,by decide,by decide⟩,by decide,by decide⟩
  ·rw[List.mem_singleton.1 ho];exact ⟨⟨by decide,by decide,by decide⟩,by decide,by decide⟩
 exact this⟩
section
variable {M:Mem}{K:AV→Hp→Mem→Prop}
theorem gsplit_bor(k n:Nat)(T:TypeId)(L:List Fa)(d:Int)(hn:n=L.length)(ho:∀f∈L,faOk M f)(hb:L.length<1000000)
  (hK1:sgnE L d≠0→∀M',Mem.le M M'→K (.ext (.tuple #[.slice none 0 0,.int .i64 (sgnE L d)])) [(k,T,faF L)] M')
  (hK2:sgnE L d=0→∀u' M' O,Mem.le M M'→GrpO (L.map faB) d O→GRV M' u' O→K (.ext (.tuple #[u',.int .i64 0])) [(k,T,faF L)] M') :
  CallS Tryz.prog 7 [.slo k 0 n 5,.ext (.int .i64 d)] [(k,T,faF L)] M [] K:=by
 refine CallS.bor ⟨⟨_,rfl⟩,trivial⟩ fun us M' hM hb'=>?_
 obtain ⟨v1,_,rfl,hv,_,_,rfl,rfl,rfl⟩:=hb'
 have g1:IsR M' 5 faC v1 L:=by
  have h:=hv T (L.flatMap faC) (by simp[lkH,faF]) (by rw[flat_len (z:=5) (fun _=>rfl)];omega)
  rw[List.drop_zero,List.take_of_length_le (by rw[flat_len (z:=5) (fun _=>rfl)];omega)]at h
  unfold IsR
  rw[←hn];exact h
 refine gsplit_ok v1 L d g1 (fun f hf=>⟨(ho f hf).1.le hM,(ho f hf).2⟩) hb (fun he M2 c1=>⟨fun j hj=>rfl,fun M3 h5 h6 _=>hK1 he M3 h5⟩) (fun he u' M2 O c1 c2 c3=>⟨fun j hj=>rfl,fun M3 h5 h6 _=>hK2 he u' M3 O h5 c2 (c3.move h6)⟩)
theorem known27_ok(hK:∀M',Mem.le M M'→K (.ext (.bool true)) [] M'):CallS Tryz.prog 12 [] [] M [] K:=by
 refine inlS (cs:=[]) Tryz.mixed Tryz.func12 rfl (by kernel_rfl) 0 rfl rfl ?_
 simp only[Tryz.f12]
 have n1:[AV.ext (.string (bs [102])),.ext (.string (bs [103]))]=cE sbV [[102],[103]]:=rfl
 refine Go1.mk ?_;repeat' ((first|(with_reducible refine Go1.go ?_)|((with_reducible refine isCall (f:=15) ?_);refine callA ?_)|((with_reducible refine isCallS (f:=15) ?_);refine (fail_bor [97,32,49] 6 2 _ [[102],[103]] rfl (by decide) (fun v1 M1 m1 g1=>Stop.mk ?_)))|(refine And.intro ?_ ?_;(try simp only[sxO]at *);omega)|fail)<;>(try simp (maxSteps:=1000000) only [n1,cE_ment,cE_kill,hasK_nil,bs_mk,bs_app,bs_ext,bs_size,bs_toList,bs_at,bs_cells,List.take_length,imp_ga,guard_pk,guard_pk2,↓hold_pre,awayP,runOps,regK,step1,newK,genR,appR,obl,buildR,Value.cells,closeK,keepH,outV,retK,ret1,retC,RetV,Option.getD,runD,stepD,afterK,undef,simprocAttr,sxB,↓sxD,sxE,sxTab]))
 have m1:Mem.le M M1:=m1
 have o1:=g1.one
 refine Stop.go ?_
 refine Go1.mk ?_;repeat' ((first|(with_reducible refine Go1.go ?_)|((with_reducible refine isCall (f:=15) ?_);refine callA ?_)|((with_reducible refine isCallS (f:=15) ?_);refine (fail_bor [98] 8 2 _ [[102],[103]] rfl (by decide) (fun v2 M2 m2 g2=>Stop.mk ?_)))|(refine And.intro ?_ ?_;(try simp only[sxO]at *);omega)|fail)<;>(try simp (maxSteps:=1000000) only [n1,faV,o1,cE_ment,cE_kill,hasK_nil,bs_mk,bs_app,bs_ext,bs_size,bs_toList,bs_at,bs_cells,List.take_length,imp_ga,guard_pk,guard_pk2,↓hold_pre,awayP,runOps,regK,step1,newK,genR,appR,obl,buildR,Value.cells,closeK,keepH,outV,retK,ret1,retC,RetV,Option.getD,runD,stepD,afterK,undef,simprocAttr,sxB,↓sxD,sxE,sxTab]))
 have m2:Mem.le M1 M2:=m2
 have o2:=g2.one
 refine Stop.go ?_
 refine Go1.mk ?_;repeat' ((first|(with_reducible refine Go1.go ?_)|(((with_reducible refine isCall (f:=15) ?_);refine callA_nil (by kernel_rfl) ?_;refine (fail_ok [98] (.slice none 0 0) [] (isL_nil _ _ _) (by decide) (fun v3 M3 m3 g3 _=>Stop.mk ?_))))|(refine And.intro ?_ ?_;(try simp only[sxO]at *);omega)|fail)<;>(try simp (maxSteps:=1000000) only [n1,faV,o1,o2,cE_ment,cE_kill,hasK_nil,bs_mk,bs_app,bs_ext,bs_size,bs_toList,bs_at,bs_cells,List.take_length,imp_ga,guard_pk,guard_pk2,↓hold_pre,awayP,runOps,regK,step1,newK,genR,appR,obl,buildR,Value.cells,closeK,keepH,outV,retK,ret1,retC,RetV,Option.getD,runD,stepD,afterK,undef,simprocAttr,sxB,↓sxD,sxE,sxTab]))
 have m3:Mem.le M2 M3:=m3
 have o3:=g3.one
 have n4:faF [kn1 v1,kn2 v2,kn3 v3]=[AV.ext (.string (bs [112])),.ext (.string (bs [116])),.ext (.int .i64 0),.ext (.string (bs [97,32,49])),.ext v1,.ext (.string (bs [112])),.ext (.string (bs [116])),.ext (.int .i64 0),.ext (.string (bs [98])),.ext v2,.ext (.string (bs [112])),.ext (.string (bs [116])),.ext (.int .i64 0),.ext (.string (bs [98])),.ext v3]:=rfl
 have ho:∀f∈[kn1 v1,kn2 v2,kn3 v3],faOk M3 f:=by
  have hc:∀L:List Bst,L=[[102],[103]]∨L=[]→∀c∈stkF L,clOk c:=by
   rintro L (rfl|rfl)
   ·intro c hc
    have h:∀c∈stkF [[102],[103]],c.1.length≤140737488351232∧c.2.1.length≤140737488351232:=by decide
    exact h c hc
   ·intro c hc;cases hc
  intro f hf
  rcases List.mem_cons.1 hf with rfl|hf
  ·exact ⟨(g1.le m2).le m3,by show (stkF [[102],[103]]).length<_;decide,by show ([97,32,49]:Bst).length<_;decide,hc _ (.inl rfl)⟩
  rcases List.mem_cons.1 hf with rfl|hf
  ·exact ⟨g2.le m3,by show (stkF [[102],[103]]).length<_;decide,by show ([98]:Bst).length<_;decide,hc _ (.inl rfl)⟩
  ·rw[List.mem_singleton.1 hf]
   exact ⟨g3,by show (stkF []).length<_;decide,by show ([98]:Bst).length<_;decide,hc _ (.inr rfl)⟩
 have e2:=kn_E2 v1 v2 v3
 have e3:=kn_E3 v1 v2 v3
 have eT:=kn_T v1 v2 v3
 refine Stop.go ?_
 refine Go1.mk ?_;repeat' ((first|(with_reducible refine Go1.go ?_)|((with_reducible refine isCall (f:=7) ?_);refine callA ?_)|((with_reducible refine isCallS (f:=7) ?_);refine (gsplit_bor 11 3 _ [kn1 v1,kn2 v2,kn3 v3] 2 rfl ho (by simp) (fun h=>absurd e2 h) (fun _ x2 M4 O2 m4 hO2 gO2=>Stop.mk ?_)))|(refine And.intro ?_ ?_;(try simp only[sxO]at *);omega)|fail)<;>(try simp (maxSteps:=1000000) only [n1,faV,o1,o2,o3,←n4,faF_ment,faF_kill,cE_ment,cE_kill,hasK_nil,bs_mk,bs_app,bs_ext,bs_size,bs_toList,bs_at,bs_cells,List.take_length,imp_ga,guard_pk,guard_pk2,↓hold_pre,awayP,runOps,regK,step1,newK,genR,appR,obl,buildR,Value.cells,closeK,keepH,outV,retK,ret1,retC,RetV,Option.getD,runD,stepD,afterK,undef,simprocAttr,sxB,↓sxD,sxE,sxTab]))
 have m4:Mem.le M3 M4:=m4
 rw[eT]at hO2
 obtain rfl:=hO2.uniq kn_g2
 refine Stop.go ?_
 obtain ⟨L2,b1,b2,b3⟩:=gO2
 have p1:=b1.one
 refine Go1.mk ?_;repeat' ((first|(with_reducible refine Go1.go ?_)|((with_reducible refine isCall (f:=7) ?_);refine callA ?_)|((with_reducible refine isCallS (f:=7) ?_);refine (gsplit_bor 11 3 _ [kn1 v1,kn2 v2,kn3 v3] 3 rfl (fun f hf=>⟨(ho f hf).1.le m4,(ho f hf).2⟩) (by simp) (fun h=>absurd e3 h) (fun _ x3 M5 O3 m5 hO3 gO3=>Stop.mk ?_)))|(refine And.intro ?_ ?_;(try simp only[sxO]at *);omega)|fail)<;>(try simp (maxSteps:=1000000) only [o1,o2,o3,p1,faF_ment,cE_ment,cE_kill,hasK_nil,bs_mk,bs_app,bs_ext,bs_size,bs_toList,bs_at,bs_cells,List.take_length,imp_ga,guard_pk,guard_pk2,↓hold_pre,awayP,runOps,regK,step1,newK,genR,appR,obl,buildR,Value.cells,closeK,keepH,outV,retK,ret1,retC,RetV,Option.getD,runD,stepD,afterK,undef,simprocAttr,sxB,↓sxD,sxE,sxTab]))
 have m5:Mem.le M4 M5:=m5
 rw[eT]at hO3
 obtain rfl:=hO3.uniq kn_g3
 have b1:=b1.le m5
 have hl2:L2.length=1:=by have:=congrArg List.length b3;simpa [knO2] using this
 have hz:0<L2.length:=by omega
 have p2:=b1.len
 have p3:=b1.sl
 have p4:=b1.nn hz
 have p5:=b1.pt hz
 rw[hl2]at p2
 have p8:=isPt_add 0 p5
 have p9:addP (addP (elemP x2 3 0) 0) 0=addP (elemP x2 3 0) 0:=addP_addP 0 0 p5
 have p6:lookM Tryz.prog 22 M5 (addP (elemP x2 3 0) 2)=some L2[0].u:=b1.atF (P:=Tryz.prog) (T:=22) (fun _=>rfl) tk22 tz22 hz (o:=2) (v:=L2[0].u) rfl
 have p7:lookM Tryz.prog 9 M5 (addP (elemP x2 3 0) 0)=some (.string (bs L2[0].m)):=b1.atF (P:=Tryz.prog) (T:=9) (fun _=>rfl) tk9 tz9 hz (o:=0) (v:=.string (bs L2[0].m)) rfl
 have hg:L2[0].o=(([97,32,35],knC),[0,1,2]):=by
  have h:(L2.map GX.o)[0]? = knO2[0]?:=by rw[b3]
  rw[List.getElem?_map,List.getElem?_eq_getElem hz]at h
  exact Option.some.inj h
 have hgl:L2[0].l=[0,1,2]:=congrArg Prod.snd hg
 have hgm:L2[0].m=[97,32,35]:=congrArg (fun x=>x.1.1) hg
 have q1:=(b2 _ (List.getElem_mem hz)).2.le m5
 have q2:=q1.one
 have q3:=q1.len
 have q4:=q1.sl
 rw[hgl]at q3
 rw[hgm]at p7
 have q3:slen L2[0].u=3:=q3
 clear hg hgl hgm
 generalize L2[0].u=gu at *
 have c1:x3.oneCell'=true:=by obtain ⟨_,h,_⟩:=gO3;exact h.one
 have hl3:slen x3=2∧isSl x3=true:=by
  obtain ⟨L3,h1,_,h3⟩:=gO3
  refine ⟨?_,h1.sl⟩
  rw[h1.len]
  have:=congrArg List.length h3;simpa [knO3] using this
 obtain ⟨c2,c3⟩:=hl3
 have elr:lrgO knO3=1:=by decide +kernel
 refine Stop.go ?_
 refine Go1.mk ?_;repeat' ((first|(with_reducible refine Go1.go ?_)|(((with_reducible refine isCall (f:=35) ?_);refine callA_nil (by kernel_rfl) ?_;refine (plargest_ok x3 knO3 gO3 knO3_ok (Stop.mk ?_))))|(refine And.intro ?_ ?_;(try simp only[sxO]at *);omega)|fail)<;>(try simp (maxSteps:=1000000) only [o1,o2,o3,p1,p2,p3,p4,p5,p6,p7,p8,p9,q2,q3,q4,c1,c2,c3,faF_ment,cE_ment,cE_kill,hasK_nil,bs_mk,bs_app,bs_ext,bs_size,bs_toList,bs_at,bs_cells,List.take_length,imp_ga,guard_pk,guard_pk2,↓hold_pre,awayP,runOps,regK,step1,newK,genR,appR,obl,buildR,Value.cells,closeK,keepH,outV,retK,ret1,retC,RetV,Option.getD,runD,stepD,afterK,undef,simprocAttr,sxB,↓sxD,sxE,sxTab]))
 rw[elr]
 refine Stop.go ?_
 refine Go1.mk ?_;repeat' ((first|(with_reducible refine Go1.go ?_)|(refine And.intro ?_ ?_;(try simp only[sxO]at *);omega)|fail)<;>(try simp (maxSteps:=1000000) only [hasK_nil,bs_mk,bs_app,bs_ext,bs_size,bs_toList,bs_at,bs_cells,List.take_length,imp_ga,guard_pk,guard_pk2,↓hold_pre,awayP,runOps,regK,step1,newK,genR,appR,obl,buildR,Value.cells,closeK,keepH,outV,retK,ret1,retC,RetV,Option.getD,runD,stepD,afterK,undef,simprocAttr,sxB,↓sxD,sxE,sxTab]))
 exact hK M5 (m1.trans (m2.trans (m3.trans (m4.trans m5))))
end
section
variable {M:Mem}{K:AV→Hp→Mem→Prop}
end
structure AnsG (L:List Fa) (d:Int) (O:List GO):Prop where
 ok:sgnE L d=0→GrpO (L.map faB) d O
 no:sgnE L d≠0→O=[]
theorem AnsG.uniq{L:List Fa}{d:Int}{O O':List GO}(h:AnsG L d O)(h':AnsG L d O'):O=O':=by
 by_cases he:sgnE L d=0
 ·exact (h.ok he).uniq (h'.ok he)
 ·rw[h.no he,h'.no he]
theorem sgnE_64{L:List Fa}{d:Int}(he:sgnE L d=0):L.length≤64:=by
 unfold sgnE at he
 split at he
 ·cases he
 ·split at he
  ·cases he
  ·split at he
   ·cases he
   ·omega
theorem AnsG.good{M:Mem}{L:List Fa}{d:Int}{O:List GO}(h:AnsG L d O)(ho:∀f∈L,faOk M f):okO O:=by
 by_cases he:sgnE L d=0
 ·refine (h.ok he).ok (fun s hs=>?_) (by rw[List.length_map];exact sgnE_64 he)
  obtain ⟨f,hf,rfl⟩:=List.mem_map.1 hs
  exact okB_fa (ho f hf)
 ·rw[h.no he];exact ⟨Nat.zero_le _,fun o ho=>by cases ho⟩
theorem GRV.nil(M:Mem):GRV M (.slice none 0 0) []:=⟨[],slM_nil _ _ _,(fun g hg=>by cases hg),rfl⟩
theorem faOk.le{M M':Mem}{f:Fa}(h:faOk M f)(hM:Mem.le M M'):faOk M' f:=⟨h.1.le hM,h.2⟩
section
variable {M:Mem}{K:AV→Hp→Mem→Prop}
theorem psplit_ok(u:Value)(L:List Fa)(d:Int)(hu:IsR M 5 faC u L)(ho:∀f∈L,faOk M f)(hb:L.length<1000000)(hK:∀u' M' O,Mem.le M M'→AnsG L d O→GRV M' u' O→K (.ext (.tuple #[u',.int .i64 (sgnE L d)])) [] M'):CallS Tryz.prog 7 [.ext u,.ext (.int .i64 d)] [] M [] K:=
 gsplit_ok u L d hu ho hb (fun he M1 m1=>hK _ M1 [] m1 ⟨fun h=>absurd h he,fun _=>rfl⟩ (GRV.nil _)) fun he u' M1 O m1 h1 h2=>by
  have h:=hK u' M1 O m1 ⟨fun _=>h1,fun h=>absurd he h⟩ h2.v
  rw[he]at h;exact h
theorem qsplit_ok(u:Value)(L:List Fa)(d:Int)(hu:IsR M 5 faC u L)(ho:∀f∈L,faOk M f)(hb:L.length<1000000)(hK:∀u' M' O,Mem.le M M'→AnsG L d O→GRV M' u' O→K (.ext (.tuple #[u',.int .i64 (sgnE L d)])) [] M'):CallS Tryz.prog 30 [.ext u,.ext (.int .i64 d)] [] M [] K:=
 rsplit_ok u L d hu ho hb (fun he M1 m1=>hK _ M1 [] m1 ⟨fun h=>absurd h he,fun _=>rfl⟩ (GRV.nil _)) fun he u' M1 O m1 h1 h2=>by
  have h:=hK u' M1 O m1 ⟨fun _=>h1,fun h=>absurd he h⟩ h2
  rw[he]at h;exact h
end
theorem Cmp.le{α:Type}{c:α→α→Int}(h:Cmp c){a b d:α}(h1:c a b≤0)(h2:c b d≤0):c a d≤0:=by
 by_cases e1:c a b=0
 ·rw[(h.zero a b).1 e1];exact h2
 ·by_cases e2:c b d=0
  ·rw[←(h.zero b d).1 e2];exact h1
  ·have:=h.trans a b d (by omega) (by omega);omega
section
variable {T:List (Bst×List Bst)}{f:Nat→Nat}{n r i j k:Nat}
theorem grpO_len:(grpO T f).length=(rootsU f T.length).length:=by unfold grpO outU;rw[List.length_map,List.length_map]
theorem grpO_at(h:i<(rootsU f T.length).length):(grpO T f)[i]'(by rw[grpO_len];exact h)=(T.getD (bestU (ltG T) f T.length (rootsU f T.length)[i]) ([],[]),memU f T.length (rootsU f T.length)[i]):=by
 simp only[grpO,outU,List.getElem_map]
end
theorem firE_0:∀{L:List Fa},(∀f∈L,faE f=0)→firE L=0
 | [],_=>rfl
 | f :: L,h=>by
  simp only[firE]
  rw[h f List.mem_cons_self,if_pos rfl]
  exact firE_0 fun x hx=>h x (List.mem_cons_of_mem _ hx)
theorem sgnE_0{L:List Fa}{d:Int}(h:∀f∈L,faE f=0)(hl:L.length≤64)(h1:1≤d)(h2:d≤16):sgnE L d=0:=by
 unfold sgnE
 rw[if_neg (by omega),if_neg (by omega),if_neg (by omega)]
 exact firE_0 h
section
variable {M:Mem}{K:AV→Hp→Mem→Prop}
end
section
variable {b:Nat}{T T0:TypeId}{Ls:List (List Value)}{k i n O:Nat}
theorem le_famPut{s:St}(l:List Value)(E:Env)(R:Hp)(hi:i<Ls.length)(hl:Ls[i]=l)(hn:l.length=n)(hO:lkH s.hp O=some (T0,(famC b Ls).set i (.slo k 0 n 1)))
  (hk:lkH s.hp k=some (T,l.map .ext)) (hF:∀j (hj:j<Ls.length),j≠i→lkH s.hp (j+b)=some (T,Ls[j].map .ext)) (hkb:k<b) (hOb:O<b) (hOk:O≠k)
  (hE:subE E s.env) (hE1:hasK k (mentE E)=false) (hE2:ltB b (mentE E)=true) (hR:subHp R s.hp) (hR1:hasK k (mentH R)=false) (hR2:ltB b (mentH R)=true) (hR3:hasK O (keysH R)=false)
  (hfx:hasK k s.fx=false) (hfx2:ltB b s.fx=true) (hsb:s.kb≤b) (hkeep:keepLt s.kb ((O,T0,famC b Ls) :: famH b T Ls R) s.hp) :
  Le s {env:=E,hp:=(O,T0,famC b Ls) :: famH b T Ls R,M:=s.M,kb:=s.kb,fx:=s.fx,fr:=s.fr}:=fun c q ρ a w g=>by
 let ρ':Rho:=fun j=>if j=i+b then ρ k else ρ j
 have hne:∀j,j≠i+b→ρ j=ρ' j:=fun j h=>by simp only[ρ',if_neg h]
 have hself:ρ' (i+b)=ρ k:=by simp only[ρ',if_pos rfl]
 have hlt:∀j,j<b→ρ j=ρ' j:=fun j h=>hne j (by omega)
 have hsrc:∀j T' cs,lkH ((O,T0,famC b Ls) :: famH b T Ls R) j=some (T',cs)→(j=O∧T'=T0∧cs=famC b Ls)∨(j≠O∧∃q,∃hq:q<Ls.length,j=q+b∧T'=T∧cs=Ls[q].map .ext)∨(j≠O∧j<b∧j≠k∧lkH s.hp j=some (T',cs)∧(∀m∈mentL cs,m<b∧m≠k)):=fun j T' cs hj=>by
  simp only[lkH]at hj
  split at hj
  ·rename_i e;cases hj;exact .inl ⟨e.symm,rfl,rfl⟩
  ·rename_i e
   have e:j≠O:=fun h=>e h.symm
   by_cases hb:b≤j
   ·cases hq:Ls[j-b]? with
    | some l'=>
     obtain ⟨hq1,hq2⟩:=List.getElem?_eq_some_iff.1 hq
     unfold famH at hj
     rw[lkH_append,lkH_famB,if_pos hb,hq]at hj
     simp only[Option.map_some,Option.some.injEq,Prod.mk.injEq]at hj
     exact .inr (.inl ⟨e,j-b,hq1,by omega,hj.1.symm,by rw[←hj.2,hq2]⟩)
    | none=>
     unfold famH at hj
     rw[lkH_append,lkH_famB,if_pos hb,hq]at hj
     have:=ltB_no hR2 hb
     exact absurd (mentH_lk (T:=T') (cs:=cs) hj (.inl rfl)) this
   ·rw[lkH_fam (by omega)]at hj
    refine .inr (.inr ⟨e,by omega,fun h=>hasK_no.1 hR1 (mentH_lk (T:=T') (cs:=cs) hj (.inl h.symm)),subHp_lk hR j _ hj,fun m hm=>⟨?_,fun h=>hasK_no.1 hR1 (mentH_lk hj (.inr (h▸hm)))⟩⟩)
    exact Classical.byContradiction fun h=>ltB_no hR2 (show b≤m by omega) (mentH_lk hj (.inr hm))
 have hold:∀j x,lkH ((O,T0,famC b Ls) :: famH b T Ls R) j=some x→∃j0,ρ' j=ρ j0∧(lkH s.hp j0).isSome=true∧((j=i+b∧j0=k)∨(j≠i+b∧j≠k∧j0=j)):=fun j x hj=>by
  rcases hsrc j x.1 x.2 hj with ⟨rfl,_,_⟩|⟨_,q,hq,rfl,_,_⟩|⟨_,h1,h2,h3,_⟩
  ·exact ⟨j,(hlt j hOb).symm,by rw[hO];rfl,.inr ⟨by omega,hOk,rfl⟩⟩
  ·by_cases e:q=i
   ·subst e;exact ⟨k,hself,by rw[hk];rfl,.inl ⟨rfl,rfl⟩⟩
   ·exact ⟨q+b,(hne _ (by omega)).symm,by rw[hF q hq e];rfl,.inr ⟨by omega,by omega,rfl⟩⟩
  ·exact ⟨j,(hlt j h1).symm,by rw[h3];rfl,.inr ⟨by omega,h2,rfl⟩⟩
 refine ⟨ρ',{df:=g.df,sz:=g.sz,env:=fun t=>?_,hp:=fun j T' cs bb hj hb'=>?_,no:=fun j T' cs hj hb'=>?_,inj:=fun j j' bb bb' hj hj' hb1 hb2' e=>?_,os:=g.os,tape:=g.tape,output:=g.output,size:=g.size,block:=g.block,sub:=g.sub,le:=g.le,mf:=g.mf,fix:=fun j hj=>?_,fx:=fun j hj=>?_,kl:=g.kl,fr:=g.fr}⟩
 ·rcases subE_lk hE t with h|h
  ·show (lk E t).is ρ' _
   rw[h];trivial
  ·have h1:=g.env t
   rw[←h]at h1
   exact is_agree (fun j hj=>hlt j (Classical.byContradiction fun hc=>ltB_no hE2 (show b≤j by omega) (mentE_lk hj))) h1
 ·rcases hsrc j T' cs hj with ⟨rfl,rfl,rfl⟩|⟨_,q,hq,rfl,rfl,rfl⟩|⟨_,h1,h2,h3,h4⟩
  ·rw[←hlt _ hOb]at hb'
   obtain ⟨⟨arr,f1⟩,f2⟩:=g.hp j T' _ bb hO hb'
   refine ⟨⟨arr,f1.there,f1.size,by have:=f1.le;rwa[List.length_set]at this,fun q v hv=>?_⟩,f2⟩
   rw[famC_get?]at hv
   cases e:Ls[q]? with
   | none=>rw[e]at hv;cases hv
   | some l'=>
    rw[e]at hv
    simp only[Option.map_some,Option.some.injEq]at hv
    subst hv
    obtain ⟨hq,hq2⟩:=List.getElem?_eq_some_iff.1 e
    by_cases eq:q=i
    ·subst eq
     have h5:=f1.is q (.slo k 0 n 1) (by rw[List.getElem?_set,if_pos rfl,if_pos (by rw[famC_len];exact hq)])
     have h6:isSlo ρ k 0 n 1 (arr.getD q undef):=h5
     show isSlo ρ' (q+b) 0 l'.length 1 _
     unfold isSlo at h6 ⊢
     rw[hself]
     rw[show l'.length=n by rw[←hq2,hl,hn]]
     exact h6
    ·have h5:=f1.is q (.slo (q+b) 0 l'.length 1) (by rw[List.getElem?_set,if_neg (fun h=>eq h.symm),famC_get?,e];rfl)
     refine is_agree (fun m hm=>?_) h5
     have:m=q+b:=by simpa [AV.ment] using hm
     subst this
     exact hne _ (by omega)
  ·have hex:∀(l':List Value) m,m∈mentL (l'.map AV.ext)→False:=fun l' m hm=>by rw[mentL_ext]at hm;cases hm
   by_cases e:q=i
   ·subst e
    rw[hself]at hb'
    obtain ⟨⟨arr,f1⟩,f2⟩:=g.hp k _ _ bb hk hb'
    rw[hl]
    exact ⟨⟨arr,f1.there,f1.size,f1.le,fun p v hv=>is_agree (fun m hm=>(hex l m (mentL_get hv hm)).elim) (f1.is p v hv)⟩,f2⟩
   ·rw[←hne _ (by omega)]at hb'
    obtain ⟨⟨arr,f1⟩,f2⟩:=g.hp _ _ _ bb (hF q hq e) hb'
    exact ⟨⟨arr,f1.there,f1.size,f1.le,fun p v hv=>is_agree (fun m hm=>(hex _ m (mentL_get hv hm)).elim) (f1.is p v hv)⟩,f2⟩
  ·rw[←hlt j h1]at hb'
   obtain ⟨⟨arr,f1⟩,f2⟩:=g.hp j T' cs bb h3 hb'
   exact ⟨⟨arr,f1.there,f1.size,f1.le,fun p v hv=>is_agree (fun m hm=>hlt m (h4 m (mentL_get hv hm)).1) (f1.is p v hv)⟩,f2⟩
 ·rcases hsrc j T' cs hj with ⟨rfl,rfl,rfl⟩|⟨_,q,hq,rfl,rfl,rfl⟩|⟨_,h1,h2,h3,h4⟩
  ·rw[←hlt _ hOb]at hb'
   have:=g.no j _ _ hO hb'
   have h5:((famC b Ls).set i (.slo k 0 n 1)).length=0:=by rw[this];rfl
   rw[List.length_set]at h5
   exact List.eq_nil_of_length_eq_zero h5
  ·by_cases e:q=i
   ·subst e
    rw[hself]at hb'
    rw[hl]
    exact g.no k _ _ hk hb'
   ·rw[←hne _ (by omega)]at hb'
    exact g.no _ _ _ (hF q hq e) hb'
  ·rw[←hlt j h1]at hb'
   exact g.no j T' cs h3 hb'
 ·obtain ⟨x,hx⟩:=Option.isSome_iff_exists.1 hj
  obtain ⟨x',hx'⟩:=Option.isSome_iff_exists.1 hj'
  obtain ⟨j0,p1,p2,p3⟩:=hold j x hx
  obtain ⟨j1,q1,q2,q3⟩:=hold j' x' hx'
  rw[p1]at hb1
  rw[q1]at hb2'
  have h0:=g.inj j0 j1 bb bb' p2 q2 hb1 hb2' e
  omega
 ·exact keepLt_ok hkeep j (g.kl j hj) (g.fix j hj)
 ·rw[←hlt j (Classical.byContradiction fun h=>ltB_no hfx2 (show b≤j by omega) hj)]
  exact g.fx j hj
theorem famC_setset(x:AV)(l:List Value):(famC b Ls).set i x=(famC b (Ls.set i l)).set i x:=by
 refine List.ext_getElem? fun q=>?_
 rw[List.getElem?_set,List.getElem?_set,famC_len,famC_len,List.length_set,famC_get?,famC_get?,List.getElem?_set]
 by_cases e:i=q
 ·rw[if_pos e,if_pos e]
 ·rw[if_neg e,if_neg e,if_neg e]
theorem le_famSet{s:St}(l:List Value)(E:Env)(R:Hp)(hi:i<Ls.length)(hn:l.length=n)(hO:lkH s.hp O=some (T0,(famC b Ls).set i (.slo k 0 n 1)))
  (hk:lkH s.hp k=some (T,l.map .ext)) (hF:∀j (hj:j<Ls.length),lkH s.hp (j+b)=some (T,Ls[j].map .ext)) (hkb:k<b) (hOb:O<b) (hOk:O≠k)
  (hE:subE E s.env) (hE1:hasK k (mentE E)=false) (hE2:ltB b (mentE E)=true) (hR:subHp R s.hp) (hR1:hasK k (mentH R)=false) (hR2:ltB b (mentH R)=true) (hR3:hasK O (keysH R)=false)
  (hfx:hasK k s.fx=false) (hfx2:ltB b s.fx=true) (hsb:s.kb≤b) (hkeep:keepLt s.kb ((O,T0,famC b (Ls.set i l)) :: famH b T (Ls.set i l) R) s.hp) :
  Le s {env:=E,hp:=(O,T0,famC b (Ls.set i l)) :: famH b T (Ls.set i l) R,M:=s.M,kb:=s.kb,fx:=s.fx,fr:=s.fr}:=by
 refine le_famPut (i:=i) (k:=k) (n:=n) l E R (by rw[List.length_set];exact hi) (by rw[List.getElem_set_self]) hn (by rw[←famC_setset];exact hO) hk (fun j hj hne=>?_) hkb hOb hOk hE hE1 hE2 hR hR1 hR2 hR3 hfx hfx2 hsb hkeep
 rw[List.length_set]at hj
 rw[hF j hj,List.getElem_set_ne (fun h=>hne h.symm)]
theorem lk_famI{x:TypeId×List AV}(hO:O<b)(hi:i<Ls.length):lkH ((O,x) :: famH b T Ls []) (i+b)=some (T,Ls[i].map .ext):=by
 simp only[lkH]
 rw[if_neg (by omega)]
 exact lkH_famI hi
theorem lk_famC{x:TypeId×List AV}(hOb:O<b):∀k y,lkH ((O,x) :: famH b T Ls []) k=some y→(k=O∧y=x)∨∃i,∃hi:i<Ls.length,k=i+b∧y=(T,Ls[i].map .ext):=fun k y h=>by
 simp only[lkH]at h
 split at h
 ·rename_i e;cases h;exact .inl ⟨e.symm,rfl⟩
 ·right
  unfold famH at h
  rw[List.append_nil,lkH_famB]at h
  split at h
  ·rename_i hb
   cases hq:Ls[k-b]? with
   | none=>rw[hq]at h;cases h
   | some l=>
    rw[hq]at h
    obtain ⟨h1,h2⟩:=List.getElem?_eq_some_iff.1 hq
    simp only[Option.map_some,Option.some.injEq]at h
    exact ⟨k-b,h1,by omega,h2▸h.symm⟩
  ·cases h
theorem Fz.fam{z:St}{B:St→Prop}(t m:Nat)(E:Env)(R:Hp)(hm:m=Ls.length)(ht:lk z.env t=.slo O 0 m 1)(hO:lkH z.hp O=some (T0,famC b Ls))(hF:∀i (hi:i<Ls.length),lkH z.hp (i+b)=some (T,Ls[i].map .ext))(hOb:O<b)(hkO:z.kb≤O)
  (hE:subE E z.env) (hE1:hasK O (mentE E)=false) (hE2:ltB b (mentE E)=true) (hR:subHp R z.hp) (hR1:hasK O (mentH R)=false) (hR2:ltB b (mentH R)=true) (hkeep:keepLt z.kb R z.hp) (hfx:∀k,k<z.kb→(lkH z.hp k).isSome=true→k∈z.fx)
  (h:∀M' U,Mem.le z.M M'→LLF z.M M' U Ls→B {env:=(t,.ext U) :: E,hp:=R,M:=M',kb:=z.kb,fx:=z.fx,fr:=z.fr}):Fz z B:=by
 have hk:∀k,(lkH ((O,T0,famC b Ls) :: famH b T Ls []) k).isSome=true→k=O∨b≤k:=fun k hk=>by
  obtain ⟨y,hy⟩:=Option.isSome_iff_exists.1 hk
  rcases lk_famC hOb k y hy with ⟨rfl,_⟩|⟨i,hi,rfl,_⟩
  ·exact .inl rfl
  ·exact .inr (by omega)
 refine Fz.frz ((O,T0,famC b Ls) :: famH b T Ls []) [t] E R (closed_fam hOb) (fun k x hx=>?_) hE (fun k h1 h2=>?_) hR (fun k h1 h2=>?_) hkeep hfx (fun M' ρ w us hM hh hu=>?_)
 ·rcases lk_famC hOb k x hx with ⟨rfl,rfl⟩|⟨i,hi,rfl,rfl⟩
  ·exact ⟨hO,hkO⟩
  ·exact ⟨hF i hi,by omega⟩
 ·rcases hk k h1 with rfl|h3
  ·exact hasK_no.1 hE1 h2
  ·exact ltB_no hE2 h3 h2
 ·rcases hk k h1 with rfl|h3
  ·exact hasK_no.1 hR1 h2
  ·exact ltB_no hR2 h3 h2
 ·have h1:=hu t
  rw[ht]at h1
  have h2:=borO_is hh (closed_fam hOb) _ _ (fun j hj=>by
   have:j=O:=by simpa [AV.ment] using hj
   subst this
   simp[lkH]) h1
  exact h M' (us t) hM (h2.fam (b:=b) (T0:=T0) (T:=T) (by simp[lkH]) hm fun i hi=>lk_famI hOb hi)
end
def rowF(n:Nat)(G:Nat→Bool):List Value:=(List.range n).map fun b=>.bool (G b)
def matF(n:Nat)(F:Nat→Nat→Bool):List (List Value):=(List.range n).map fun a=>rowF n (F a)
section
variable {n a b:Nat}{F F':Nat→Nat→Bool}{G G':Nat→Bool}
theorem rowF_len:(rowF n G).length=n:=by simp[rowF]
theorem matF_len:(matF n F).length=n:=by simp[matF]
theorem rowF_at(h:b<n):(rowF n G)[b]'(by rw[rowF_len];exact h)=.bool (G b):=by simp[rowF]
theorem matF_at(h:a<n):(matF n F)[a]'(by rw[matF_len];exact h)=rowF n (F a):=by simp[matF]
theorem rowF_congr(h:∀b,b<n→G b=G' b):rowF n G=rowF n G':=by
 unfold rowF
 exact List.map_congr_left fun b hb=>by rw[h b (List.mem_range.1 hb)]
theorem rowF_set(h:b<n):(rowF n G).set b (.bool true)=rowF n fun b'=>G b' || b'==b:=by
 apply List.ext_getElem
 ·simp[rowF]
 ·intro j h1 h2
  have hj:j<n:=by rw[rowF_len]at h2;exact h2
  rw[List.getElem_set]
  by_cases e:b=j
  ·rw[if_pos e,rowF_at hj];simp[e]
  ·rw[if_neg e,rowF_at hj,rowF_at hj]
   have:(j==b)=false:=by simp;exact fun h=>e h.symm
   rw[this,Bool.or_false]
theorem matF_set(h:a<n):(matF n F).set a (rowF n fun b'=>F a b' || b'==b)=matF n fun a' b'=>F a' b' || (a'==a&&b'==b):=by
 apply List.ext_getElem
 ·simp[matF]
 ·intro j h1 h2
  have hj:j<n:=by rw[matF_len]at h2;exact h2
  rw[List.getElem_set]
  by_cases e:a=j
  ·subst e
   rw[if_pos rfl,matF_at hj]
   exact rowF_congr fun b' _=>by simp
  ·rw[if_neg e,matF_at hj,matF_at hj]
   have:(j==a)=false:=by simp;exact fun h=>e h.symm
   exact rowF_congr fun b' _=>by rw[this];simp
theorem rowF_no:List.replicate n (.bool false)=rowF n fun _=>false:=by
 apply List.ext_getElem
 ·simp[rowF]
 ·intro j h1 h2
  rw[rowF_at (by rw[rowF_len]at h2;exact h2)];simp
theorem famC_mat{k:Nat}:famC k (matF n F)=famC k (matF n F'):=by
 apply List.ext_getElem?
 intro j
 rw[famC_get?,famC_get?]
 by_cases h:j<n
 ·rw[List.getElem?_eq_getElem (by rw[matF_len];exact h),List.getElem?_eq_getElem (by rw[matF_len];exact h),Option.map_some,Option.map_some,matF_at h,matF_at h,rowF_len,rowF_len]
 ·rw[List.getElem?_eq_none (by rw[matF_len];omega),List.getElem?_eq_none (by rw[matF_len];omega)]
end
theorem upH_famB{T:TypeId}{l:List Value}:∀(Ls:List (List Value)) (b i:Nat),i<Ls.length→upH (famB b T Ls) (i+b) (l.map .ext)=famB b T (Ls.set i l)
 | [],b,i,h=>absurd h (Nat.not_lt_zero _)
 | x :: Ls,b,0,_=>by
  rw[famB_cons,List.set_cons_zero,famB_cons]
  simp[upH]
 | x :: Ls,b,i+1,h=>by
  rw[famB_cons,List.set_cons_succ,famB_cons]
  have:=upH_famB (T:=T) (l:=l) Ls (b+1) i (Nat.lt_of_succ_lt_succ h)
  rw[show i+(b+1)=i+1+b by omega]at this
  simp only[upH]
  rw[if_neg (by omega),this]
theorem upH_famI{T:TypeId}{l:List Value}{Ls:List (List Value)}{b i:Nat}(h:i<Ls.length):upH (famH b T Ls []) (i+b) (l.map .ext)=famH b T (Ls.set i l) []:=by
 unfold famH
 rw[List.append_nil,List.append_nil,upH_famB Ls b i h]
def togO(O:List GO)(a b:Nat):Bool:=O.any fun o=>o.2.contains a&&o.2.contains b
theorem togO_take{O:List GO}{i:Nat}(h:i<O.length)(a b:Nat):togO (O.take (i+1)) a b=(togO (O.take i) a b || (O[i].2.contains a&&O[i].2.contains b)):=by
 unfold togO
 rw[List.take_succ_eq_append_getElem h,List.any_append];simp
theorem contains_take_succ{l:List Nat}{q x:Nat}(hq:q<l.length):(l.take (q+1)).contains x=((l.take q).contains x || (x==l[q])):=by
 rw[List.take_succ_eq_append_getElem hq,Bool.eq_iff_iff]
 simp only[List.contains_iff_mem,List.mem_append,List.mem_singleton,Bool.or_eq_true,beq_iff_eq]
theorem repN_nil(n:Nat):(repN [.slice none 0 0] n).map AV.ext=List.replicate n (.ext (.slice none 0 0)):=by
 induction n with
 | zero=>rfl
 | succ n ih=>simp only[repN,List.map_append,ih,List.replicate_succ];rfl
theorem mentL_rep(n:Nat)(v:Value):mentL (List.replicate n (.ext v))=[]:=by
 induction n with
 | zero=>rfl
 | succ n ih=>simp only[List.replicate_succ,mentL,AV.ment,ih,List.append_nil]
section
variable {M:Mem}{K:AV→Hp→Mem→Prop}
def tgA(M:Mem)(g:Value)(n i:Nat)(Ls:List (List Value)):St:={env:=[(6,.ext (.int .i64 (i:Int))),(5,.slo 13 0 n 1),(0,.ext g),(1,.ext (.int .i64 (n:Int)))],hp:=(13,51,famC 1000 Ls) :: famH 1000 4 Ls [],M:=M,kb:=0,fx:=[]}
def tgB(M:Mem)(g:Value)(n i:Nat)(F:Nat→Nat→Bool):St:={env:=[(7,.ext (.int .i64 (i:Int))),(5,.slo 13 0 n 1),(0,.ext g),(1,.ext (.int .i64 (n:Int)))],hp:=(13,51,famC 1000 (matF n F)) :: famH 1000 4 (matF n F) [],M:=M,kb:=0,fx:=[]}
def tgC(M:Mem)(g m:Value)(n i w p:Nat)(F:Nat→Nat→Bool):St:={env:=[(36,.ext (.int .i64 (p:Int))),(35,.ext (.int .i64 (w:Int))),(34,.ext m),(7,.ext (.int .i64 (i:Int))),(5,.slo 13 0 n 1),(0,.ext g),(1,.ext (.int .i64 (n:Int)))],hp:=(13,51,famC 1000 (matF n F)) :: famH 1000 4 (matF n F) [],M:=M,kb:=0,fx:=[]}
def tgD(M:Mem)(g m:Value)(n i w p q a:Nat)(F:Nat→Nat→Bool):St:={env:=[(46,.ext (.int .i64 (q:Int))),(45,.ext (.int .i64 (w:Int))),(44,.ext m),(9,.ext (.int .i64 (a:Int))),(36,.ext (.int .i64 (p:Int))),(35,.ext (.int .i64 (w:Int))),(34,.ext m),(7,.ext (.int .i64 (i:Int))),(5,.slo 13 0 n 1),(0,.ext g),(1,.ext (.int .i64 (n:Int)))],hp:=(13,51,famC 1000 (matF n F)) :: famH 1000 4 (matF n F) [],M:=M,kb:=0,fx:=[]}
theorem together_ok(g:Value)(O:List GO)(n:Nat)(hn:n≤100)(hg:GRV M g O)(hO:okO O)(hm:∀o∈O,∀j∈o.2,j<n)(hK:∀U M',Mem.le M M'→LL M' U (matF n (togO O))→K (.ext U) [] M'):CallS Tryz.prog 13 [.ext g,.ext (.int .i64 (n:Int))] [] M [] K:=by
 obtain ⟨L,g1,g2,g3⟩:=hg
 refine inlS (cs:=[19]) Tryz.mixed Tryz.func13 rfl (by kernel_rfl) 0 rfl rfl ?_
 simp only[Tryz.f13]
 have go:=g1.one
 have gl:=g1.len
 have gs:=g1.sl
 have hL:O.length=L.length:=by rw[←g3,List.length_map]
 have hn64:=hO.len
 have n0:(0:Int)≤(n:Int):=by omega
 have nT:((n:Int)).toNat=n:=by omega
 have t2:=repN_nil n
 have hz:(repN [.bool false] n).map AV.ext=(rowF n fun _=>false).map AV.ext:=by
  rw[←rowF_no,cE_rep Value.bool n false]
  simp[cE]
 (try with_reducible refine Fz.of ?_);(replace hb0:=true_and True);refine Go1.mk ?_;repeat' ((first|(with_reducible refine Go1.go ?_)|((with_reducible first|refine brv_mk ?_ ?_|refine gsplitD ?_ ?_|refine gsplitG ?_ ?_)<;>intro h<;>(try simp only[Bool.not_eq_true',Bool.not_eq_false']at h)<;>replace hb0:=h)|(refine And.intro ?_ ?_;(try simp only[sxO]at *);omega)|fail)<;>(try simp (maxSteps:=1000000) only [hb0,go,gl,gs,n0,nT,t2,maxLen,mentL_rep,hasK_nil,↓hold_pre,awayP,runOps,regK,step1,newK,genR,appR,obl,buildR,Value.cells,closeK,keepH,outV,retK,ret1,retC,RetV,Option.getD,runD,stepD,afterK,undef,simprocAttr,sxB,↓sxD,sxE,sxTab]))
 refine ⟨fun d z=>∃i Ls,d=n-i∧i≤n∧Ls.length=n∧(∀j,j<i→Ls[j]? = some (rowF n fun _=>false))∧z=tgA M g n i Ls,⟨n,tgA M g n 0 (List.replicate n []),(le_fam (O:=13) (b:=1000) (n:=n) 4 (T0:=51) (by simp[lkH]) (by simp[ltB,mentE,AV.ment]) (by simp[ltB,mentH,mentL,AV.ment,mentL_rep]) (by simp[ltB]) (by simp)).trans (le_sub ⟨rfl,rfl,rfl,rfl,trivial⟩ ⟨by rw[lkH_fam (by omega)];simp[lkH,upH],subHp_fam (fun i hi=>lkH_famI hi) trivial⟩ rfl rfl rfl (keepLt0 _)),⟨0,_,by omega,by omega,List.length_replicate,fun j hj=>absurd hj (by omega),rfl⟩⟩,?_⟩
 rintro d z ⟨i,Ls,rfl,hi,hLs,hLi,rfl⟩
 have fl:=famC_len (b:=1000) (Ls:=Ls)
 rw[hLs]at fl
 by_cases hlt:i<n
 ·have d1:decide ((i:Int)<(n:Int))=true:=by rw[decide_eq_true_eq];omega
  have b1:(0:Int)≤(i:Int):=by omega
  have b2:(i:Int)<(n:Int):=by omega
  have wi:IntKind.i64.wrap ((i:Int)+1)=((i+1:Nat):Int):=by rw[wrap_id (by omega) (by omega)];omega
  have f1:hasK 22 (mentL (famC 1000 Ls))=false:=famC_ment Ls 1000 (by omega)
  have f2:hasK 22 (mentH (famH 1000 4 Ls []))=false:=by rw[hasK_fam (by omega)];rfl
  (try with_reducible refine Fz.of ?_);(replace hb0:=true_and True);refine Go1.mk ?_;repeat' ((first|(with_reducible refine Go1.go ?_)|((with_reducible first|refine brv_mk ?_ ?_|refine gsplitD ?_ ?_|refine gsplitG ?_ ?_)<;>intro h<;>(try simp only[Bool.not_eq_true',Bool.not_eq_false']at h)<;>replace hb0:=h)|(refine And.intro ?_ ?_;(try simp only[sxO]at *);omega)|fail)<;>(try simp (maxSteps:=1000000) only [hb0,tgA,d1,b1,b2,wi,fl,f1,f2,hlt,go,n0,nT,hz,maxLen,hasK_app,hasK_nil,Nat.mul_one,Nat.zero_add,↓hold_pre,awayP,runOps,regK,step1,newK,genR,appR,obl,buildR,Value.cells,closeK,keepH,outV,retK,ret1,retC,RetV,Option.getD,runD,stepD,afterK,undef,simprocAttr,sxB,↓sxD,sxE,sxTab]))
  refine ⟨n-(i+1),tgA M g n (i+1) (Ls.set i (rowF n fun _=>false)),by omega,le_famSet (O:=13) (k:=22) (b:=1000) (n:=n) (rowF n fun _=>false) _ [] (by omega) rowF_len (by simp[lkH]) (by simp[lkH]) (fun j hj=>?_) (by omega) (by omega) (by omega) ⟨rfl,rfl,rfl,rfl,trivial⟩ (by simp[mentE,AV.ment,hasK]) (by simp[mentE,AV.ment,ltB]) trivial rfl rfl rfl rfl rfl (Nat.zero_le _) (keepLt0 _),i+1,_,rfl,by omega,by rw[List.length_set,hLs],fun j hj=>?_,rfl⟩
  ·simp only[lkH]
   rw[if_neg (by omega),if_neg (by omega)]
   exact lkH_famI hj
  ·rw[List.getElem?_set]
   by_cases e:i=j
   ·rw[if_pos e,if_pos (by omega)]
   ·rw[if_neg e];exact hLi j (by omega)
 obtain rfl:n=i:=by omega
 have hLe:Ls=matF n fun _ _=>false:=by
  apply List.ext_getElem?
  intro j
  by_cases h:j<n
  ·rw[hLi j h,List.getElem?_eq_getElem (by rw[matF_len];exact h),matF_at h]
  ·rw[List.getElem?_eq_none (by omega),List.getElem?_eq_none (by rw[matF_len];omega)]
 subst hLe
 have d1:decide ((n:Int)<(n:Int))=false:=by simp
 (try with_reducible refine Fz.of ?_);(replace hb0:=true_and True);refine Go1.mk ?_;repeat' ((first|(with_reducible refine Go1.go ?_)|((with_reducible first|refine brv_mk ?_ ?_|refine gsplitD ?_ ?_|refine gsplitG ?_ ?_)<;>intro h<;>(try simp only[Bool.not_eq_true',Bool.not_eq_false']at h)<;>replace hb0:=h)|(refine And.intro ?_ ?_;(try simp only[sxO]at *);omega)|fail)<;>(try simp (maxSteps:=1000000) only [hb0,tgA,d1,fl,go,n0,hasK_app,hasK_nil,Nat.mul_one,Nat.zero_add,↓hold_pre,awayP,runOps,regK,step1,newK,genR,appR,obl,buildR,Value.cells,closeK,keepH,outV,retK,ret1,retC,RetV,Option.getD,runD,stepD,afterK,undef,simprocAttr,sxB,↓sxD,sxE,sxTab]))
 refine ⟨fun z=>z=tgB M g n L.length (togO O),?_,?_⟩
 ·(try with_reducible refine Fz.of ?_);(replace hb0:=true_and True);refine Go1.mk ?_;repeat' ((first|(with_reducible refine Go1.go ?_)|((with_reducible first|refine brv_mk ?_ ?_|refine gsplitD ?_ ?_|refine gsplitG ?_ ?_)<;>intro h<;>(try simp only[Bool.not_eq_true',Bool.not_eq_false']at h)<;>replace hb0:=h)|(refine And.intro ?_ ?_;(try simp only[sxO]at *);omega)|fail)<;>(try simp (maxSteps:=1000000) only [hb0,go,gl,gs,hasK_app,hasK_nil,↓hold_pre,awayP,runOps,regK,step1,newK,genR,appR,obl,buildR,Value.cells,closeK,keepH,outV,retK,ret1,retC,RetV,Option.getD,runD,stepD,afterK,undef,simprocAttr,sxB,↓sxD,sxE,sxTab]))
  refine ⟨fun k z=>∃i,k=L.length-i∧i≤L.length∧z=tgB M g n i (togO (O.take i)),⟨L.length,tgB M g n 0 (togO (O.take 0)),le_sub ⟨rfl,rfl,rfl,rfl,trivial⟩ ⟨rfl,subHp_fam (fun j hj=>by simp only[lkH];exact lkH_famI hj) trivial⟩ rfl rfl rfl (keepLt0 _),⟨0,rfl,Nat.zero_le _,rfl⟩⟩,?_⟩
  rintro k z ⟨i,rfl,hi,rfl⟩
  by_cases hlt:i<L.length
  case neg=>
   obtain rfl:i=L.length:=by omega
   have c1:decide ((L.length:Int)<(L.length:Int))=false:=by simp
   (try with_reducible refine Fz.of ?_);(replace hb0:=true_and True);refine Go1.mk ?_;repeat' ((first|(with_reducible refine Go1.go ?_)|((with_reducible first|refine brv_mk ?_ ?_|refine gsplitD ?_ ?_|refine gsplitG ?_ ?_)<;>intro h<;>(try simp only[Bool.not_eq_true',Bool.not_eq_false']at h)<;>replace hb0:=h)|(refine And.intro ?_ ?_;(try simp only[sxO]at *);omega)|fail)<;>(try simp (maxSteps:=1000000) only [hb0,tgB,c1,go,gl,gs,hasK_app,hasK_nil,↓hold_pre,awayP,runOps,regK,step1,newK,genR,appR,obl,buildR,Value.cells,closeK,keepH,outV,retK,ret1,retC,RetV,Option.getD,runD,stepD,afterK,undef,simprocAttr,sxB,↓sxD,sxE,sxTab]))
   rw[List.take_of_length_le (by omega)]
   exact ⟨tgB M g n L.length (togO O),le_sub ⟨rfl,rfl,rfl,rfl,trivial⟩ ⟨rfl,subHp_fam (fun j hj=>by simp only[lkH];exact lkH_famI hj) trivial⟩ rfl rfl rfl (keepLt0 _),rfl⟩
  have c1:decide ((i:Int)<(L.length:Int))=true:=by rw[decide_eq_true_eq];omega
  have z2:(0:Int)≤(i:Int):=by omega
  have z3:(i:Int)<(L.length:Int):=by omega
  have wi:IntKind.i64.wrap ((i:Int)+1)=((i+1:Nat):Int):=by rw[wrap_id (by omega) (by omega)];omega
  have gn:=g1.nn hlt
  have gp:=g1.pt hlt
  have ga:lookM Tryz.prog 22 M (addP (elemP g 3 i) 2)=some L[i].u:=g1.atF (P:=Tryz.prog) (T:=22) (fun _=>rfl) tk22 tz22 hlt (o:=2) (v:=L[i].u) rfl
  have k2:=(g2 _ (List.getElem_mem hlt)).2
  have hiO:i<O.length:=by omega
  have hOi:O[i].2=L[i].l:=by
   have:O[i]=L[i].o:=by simp only[←g3,List.getElem_map]
   rw[this];rfl
  have hms:=hm _ (List.getElem_mem hiO)
  have hml:=(hO.at_ _ (List.getElem_mem hiO)).2.1
  have htog:=fun a b=>togO_take hiO a b
  rw[hOi]at hms hml
  have htog:∀a b,togO (O.take (i+1)) a b=(togO (O.take i) a b || (L[i].l.contains a&&L[i].l.contains b)):=fun a b=>by rw[htog,hOi]
  clear hOi
  generalize L[i].u=m at *
  generalize L[i].l=ms at *
  have mo:=k2.one
  have ml:=k2.len
  have msl:=k2.sl
  obtain ⟨F0,hF0⟩:∃F0,F0=togO (O.take i):=⟨_,rfl⟩
  rw[←hF0]at htog ⊢
  (try with_reducible refine Fz.of ?_);(replace hb0:=true_and True);refine Go1.mk ?_;repeat' ((first|(with_reducible refine Go1.go ?_)|((with_reducible first|refine brv_mk ?_ ?_|refine gsplitD ?_ ?_|refine gsplitG ?_ ?_)<;>intro h<;>(try simp only[Bool.not_eq_true',Bool.not_eq_false']at h)<;>replace hb0:=h)|(refine And.intro ?_ ?_;(try simp only[sxO]at *);omega)|fail)<;>(try simp (maxSteps:=1000000) only [hb0,tgB,c1,z2,z3,gn,gp,ga,mo,ml,msl,go,gl,gs,hasK_app,hasK_nil,↓hold_pre,awayP,runOps,regK,step1,newK,genR,appR,obl,buildR,Value.cells,closeK,keepH,outV,retK,ret1,retC,RetV,Option.getD,runD,stepD,afterK,undef,simprocAttr,sxB,↓sxD,sxE,sxTab]))
  refine ⟨fun k z=>∃p,k=ms.length-p∧p≤ms.length∧z=tgC M g m n i ms.length p (fun a b=>F0 a b || ((ms.take p).contains a&&ms.contains b)),⟨ms.length,tgC M g m n i ms.length 0 (fun a b=>F0 a b || ((ms.take 0).contains a&&ms.contains b)),?_,⟨0,rfl,Nat.zero_le _,rfl⟩⟩,?_⟩
  ·rw[show (fun a b=>F0 a b || ((ms.take 0).contains a&&ms.contains b))=F0 from funext fun a=>funext fun b=>by simp]
   exact le_sub ⟨rfl,rfl,rfl,rfl,rfl,rfl,rfl,trivial⟩ ⟨rfl,subHp_fam (fun j hj=>by simp only[lkH];exact lkH_famI hj) trivial⟩ rfl rfl rfl (keepLt0 _)
  rintro k z ⟨p,rfl,hp,rfl⟩
  by_cases hpt:p<ms.length
  case neg=>
   obtain rfl:p=ms.length:=by omega
   have c2:decide ((ms.length:Int)<(ms.length:Int))=false:=by simp
   have e:(fun a b=>F0 a b || ((ms.take ms.length).contains a&&ms.contains b))=togO (O.take (i+1)):=funext fun a=>funext fun b=>by rw[htog,List.take_length]
   rw[e]
   (try with_reducible refine Fz.of ?_);(replace hb0:=true_and True);refine Go1.mk ?_;repeat' ((first|(with_reducible refine Go1.go ?_)|((with_reducible first|refine brv_mk ?_ ?_|refine gsplitD ?_ ?_|refine gsplitG ?_ ?_)<;>intro h<;>(try simp only[Bool.not_eq_true',Bool.not_eq_false']at h)<;>replace hb0:=h)|(refine And.intro ?_ ?_;(try simp only[sxO]at *);omega)|fail)<;>(try simp (maxSteps:=1000000) only [hb0,tgC,c2,wi,mo,ml,msl,go,gl,gs,hasK_app,hasK_nil,↓hold_pre,awayP,runOps,regK,step1,newK,genR,appR,obl,buildR,Value.cells,closeK,keepH,outV,retK,ret1,retC,RetV,Option.getD,runD,stepD,afterK,undef,simprocAttr,sxB,↓sxD,sxE,sxTab]))
   exact ⟨L.length-(i+1),tgB M g n (i+1) (togO (O.take (i+1))),by omega,le_sub ⟨rfl,rfl,rfl,rfl,trivial⟩ ⟨rfl,subHp_fam (fun j hj=>by simp only[lkH];exact lkH_famI hj) trivial⟩ rfl rfl rfl (keepLt0 _),i+1,rfl,by omega,rfl⟩
  have c2:decide ((p:Int)<(ms.length:Int))=true:=by rw[decide_eq_true_eq];omega
  have v2:(0:Int)≤(p:Int):=by omega
  have v3:(p:Int)<(ms.length:Int):=by omega
  have wp:IntKind.i64.wrap ((p:Int)+1)=((p+1:Nat):Int):=by rw[wrap_id (by omega) (by omega)];omega
  have mn:=k2.nn hpt
  have pa:=k2.at (P:=Tryz.prog) (T:=3) tk3 tz3 hpt
  have han:=hms _ (List.getElem_mem hpt)
  have hnx:∀a',(ms.take (p+1)).contains a'=((ms.take p).contains a' || (a'==ms[p])):=fun a'=>contains_take_succ hpt
  generalize ms[p]=a at *
  obtain ⟨F1,hF1⟩:∃F1:Nat→Nat→Bool,F1=fun a b=>F0 a b || ((ms.take p).contains a&&ms.contains b):=⟨_,rfl⟩
  rw[←hF1]
  (try with_reducible refine Fz.of ?_);(replace hb0:=true_and True);refine Go1.mk ?_;repeat' ((first|(with_reducible refine Go1.go ?_)|((with_reducible first|refine brv_mk ?_ ?_|refine gsplitD ?_ ?_|refine gsplitG ?_ ?_)<;>intro h<;>(try simp only[Bool.not_eq_true',Bool.not_eq_false']at h)<;>replace hb0:=h)|(refine And.intro ?_ ?_;(try simp only[sxO]at *);omega)|fail)<;>(try simp (maxSteps:=1000000) only [hb0,tgC,natV,c2,v2,v3,pa,mn,z2,z3,gn,gp,ga,mo,ml,msl,go,gl,gs,hasK_app,hasK_nil,↓hold_pre,awayP,runOps,regK,step1,newK,genR,appR,obl,buildR,Value.cells,closeK,keepH,outV,retK,ret1,retC,RetV,Option.getD,runD,stepD,afterK,undef,simprocAttr,sxB,↓sxD,sxE,sxTab]))
  refine ⟨fun k z=>∃q,k=ms.length-q∧q≤ms.length∧z=tgD M g m n i ms.length p q a (fun a' b'=>F1 a' b' || (a'==a&&(ms.take q).contains b')),⟨ms.length,tgD M g m n i ms.length p 0 a (fun a' b'=>F1 a' b' || (a'==a&&(ms.take 0).contains b')),?_,⟨0,rfl,Nat.zero_le _,rfl⟩⟩,?_⟩
  ·rw[show (fun a' b'=>F1 a' b' || (a'==a&&(ms.take 0).contains b'))=F1 from funext fun a=>funext fun b=>by simp]
   exact le_sub ⟨rfl,rfl,rfl,rfl,rfl,rfl,rfl,rfl,rfl,rfl,rfl,trivial⟩ ⟨rfl,subHp_fam (fun j hj=>by simp only[lkH];exact lkH_famI hj) trivial⟩ rfl rfl rfl (keepLt0 _)
  rintro k z ⟨q,rfl,hq,rfl⟩
  by_cases hqt:q<ms.length
  case neg=>
   obtain rfl:q=ms.length:=by omega
   have c3:decide ((ms.length:Int)<(ms.length:Int))=false:=by simp
   have e:(fun a' b'=>F1 a' b' || (a'==a&&(ms.take ms.length).contains b'))=fun a b=>F0 a b || ((ms.take (p+1)).contains a&&ms.contains b):=funext fun a'=>funext fun b'=>by
    rw[hF1,hnx,List.take_length]
    dsimp only
    cases F0 a' b'<;>cases (ms.take p).contains a'<;>cases (a'==a)<;>cases ms.contains b'<;>rfl
   rw[e]
   (try with_reducible refine Fz.of ?_);(replace hb0:=true_and True);refine Go1.mk ?_;repeat' ((first|(with_reducible refine Go1.go ?_)|((with_reducible first|refine brv_mk ?_ ?_|refine gsplitD ?_ ?_|refine gsplitG ?_ ?_)<;>intro h<;>(try simp only[Bool.not_eq_true',Bool.not_eq_false']at h)<;>replace hb0:=h)|(refine And.intro ?_ ?_;(try simp only[sxO]at *);omega)|fail)<;>(try simp (maxSteps:=1000000) only [hb0,tgD,c3,wp,mo,ml,msl,go,gl,gs,hasK_app,hasK_nil,↓hold_pre,awayP,runOps,regK,step1,newK,genR,appR,obl,buildR,Value.cells,closeK,keepH,outV,retK,ret1,retC,RetV,Option.getD,runD,stepD,afterK,undef,simprocAttr,sxB,↓sxD,sxE,sxTab]))
   exact ⟨ms.length-(p+1),tgC M g m n i ms.length (p+1) _,by omega,le_sub ⟨rfl,rfl,rfl,rfl,rfl,rfl,rfl,trivial⟩ ⟨rfl,subHp_fam (fun j hj=>by simp only[lkH];exact lkH_famI hj) trivial⟩ rfl rfl rfl (keepLt0 _),p+1,rfl,by omega,rfl⟩
  have c3:decide ((q:Int)<(ms.length:Int))=true:=by rw[decide_eq_true_eq];omega
  have u2:(0:Int)≤(q:Int):=by omega
  have u3:(q:Int)<(ms.length:Int):=by omega
  have wq:IntKind.i64.wrap ((q:Int)+1)=((q+1:Nat):Int):=by rw[wrap_id (by omega) (by omega)];omega
  have qa:=k2.at (P:=Tryz.prog) (T:=3) tk3 tz3 hqt
  have hbn:=hms _ (List.getElem_mem hqt)
  have hnq:∀b',(ms.take (q+1)).contains b'=((ms.take q).contains b' || (b'==ms[q])):=fun b'=>contains_take_succ hqt
  generalize ms[q]=b at *
  obtain ⟨F2,hF2⟩:∃F2:Nat→Nat→Bool,F2=fun a' b'=>F1 a' b' || (a'==a&&(ms.take q).contains b'):=⟨_,rfl⟩
  have e3:(fun a' b'=>F2 a' b' || (a'==a&&b'==b))=fun a' b'=>F1 a' b' || (a'==a&&(ms.take (q+1)).contains b'):=funext fun a'=>funext fun b'=>by
   rw[hF2,hnq]
   dsimp only
   cases F1 a' b'<;>cases (a'==a)<;>cases (ms.take q).contains b'<;>cases (b'==b)<;>rfl
  rw[←hF2]
  have r1:(0:Int)≤(a:Int):=by omega
  have r2:(a:Int)<(n:Int):=by omega
  have r3:(0:Int)≤(b:Int):=by omega
  have r4:(b:Int)<(n:Int):=by omega
  have s1:decide ((0:Int)≤(a:Int))=true:=decide_eq_true r1
  have s2:decide ((a:Int)<(n:Int))=true:=decide_eq_true r2
  have s3:decide ((0:Int)≤(b:Int))=true:=decide_eq_true r3
  have s4:decide ((b:Int)<(n:Int))=true:=decide_eq_true r4
  have fl:=famC_len (b:=1000) (Ls:=matF n F2)
  rw[matF_len]at fl
  have haL:a<(matF n F2).length:=by rw[matF_len];exact han
  have fa:=famC_at (b:=1000) haL
  rw[matF_at han,rowF_len]at fa
  have fk:lkH (famH 1000 4 (matF n F2) []) (a+1000)=some (4,(rowF n (F2 a)).map .ext):=by rw[lkH_famI haL,matF_at han]
  have fr:((rowF n (F2 a)).map AV.ext).length=n:=by rw[List.length_map,rowF_len]
  have fs:((rowF n (F2 a)).map AV.ext).set b (.ext (.bool true))=(rowF n fun b'=>F2 a b' || b'==b).map .ext:=by rw[←rowF_set hbn,List.map_set]
  have fu:upH (famH 1000 4 (matF n F2) []) (a+1000) ((rowF n fun b'=>F2 a b' || b'==b).map .ext)=famH 1000 4 (matF n fun a' b'=>F1 a' b' || (a'==a&&(ms.take (q+1)).contains b')) []:=by
   rw[upH_famI haL,matF_set han,e3]
  have fc:famC 1000 (matF n F2)=famC 1000 (matF n fun a' b'=>F1 a' b' || (a'==a&&(ms.take (q+1)).contains b')):=famC_mat
  (try with_reducible refine Fz.of ?_);(replace hb0:=true_and True);refine Go1.mk ?_;repeat' ((first|(with_reducible refine Go1.go ?_)|((with_reducible first|refine brv_mk ?_ ?_|refine gsplitD ?_ ?_|refine gsplitG ?_ ?_)<;>intro h<;>(try simp only[Bool.not_eq_true',Bool.not_eq_false']at h)<;>replace hb0:=h)|(refine And.intro ?_ ?_;(try simp only[sxO]at *);omega)|fail)<;>(try simp (maxSteps:=1000000) only [hb0,tgD,natV,c3,u2,u3,qa,mn,s1,s2,s3,s4,r1,r2,r3,r4,han,hbn,fl,fa,fk,fr,fs,fu,wq,ge_iff_le,mo,ml,msl,go,gl,gs,Nat.mul_one,Nat.zero_add,hasK_app,hasK_nil,↓hold_pre,awayP,runOps,regK,step1,newK,genR,appR,obl,buildR,Value.cells,closeK,keepH,outV,retK,ret1,retC,RetV,Option.getD,runD,stepD,afterK,undef,simprocAttr,sxB,↓sxD,sxE,sxTab]))
  rw[fc]
  exact ⟨ms.length-(q+1),tgD M g m n i ms.length p (q+1) a _,by omega,le_sub ⟨rfl,rfl,rfl,rfl,rfl,rfl,rfl,rfl,rfl,rfl,rfl,trivial⟩ ⟨rfl,subHp_fam (fun j hj=>by simp only[lkH];exact lkH_famI hj) trivial⟩ rfl rfl rfl (keepLt0 _),q+1,rfl,by omega,rfl⟩
 ·rintro z rfl
  refine Fz.fam (O:=13) (b:=1000) (Ls:=matF n (togO O)) (T0:=51) (T:=4) 5 n [] [] matF_len.symm rfl rfl (fun i hi=>by simp only[tgB,lkH];rw[if_neg (by omega)];exact lkH_famI hi) (by decide) (Nat.zero_le _) trivial rfl rfl trivial rfl rfl (keepLt0 _) (fun j hj _=>absurd hj (Nat.not_lt_zero _)) (fun M1 U m1 hU=>?_)
  have m1:Mem.le M M1:=m1
  have hUl:=hU.ll
  obtain ⟨us,hus⟩:=hUl
  have Uo:U.oneCell'=true:=one_sl hus.out.sl
  (try with_reducible refine Fz.of ?_);(replace hb0:=true_and True);refine Go1.mk ?_;repeat' ((first|(with_reducible refine Go1.go ?_)|((with_reducible first|refine brv_mk ?_ ?_|refine gsplitD ?_ ?_|refine gsplitG ?_ ?_)<;>intro h<;>(try simp only[Bool.not_eq_true',Bool.not_eq_false']at h)<;>replace hb0:=h)|(refine And.intro ?_ ?_;(try simp only[sxO]at *);omega)|fail)<;>(try simp (maxSteps:=1000000) only [hb0,tgB,Uo,hasK_nil,↓hold_pre,awayP,runOps,regK,step1,newK,genR,appR,obl,buildR,Value.cells,closeK,keepH,outV,retK,ret1,retC,RetV,Option.getD,runD,stepD,afterK,undef,simprocAttr,sxB,↓sxD,sxE,sxTab]))
  exact hK U M1 m1 hU.ll
end
section
variable {n:Nat}{R S:Nat→Nat→Prop}{f g:Nat→Nat}
theorem tog_lab{T:List (Bst×List Bst)}(hf:Lab T.length R f){a b:Nat}(ha:a<T.length)(hb:b<T.length):togO (grpO T f) a b=decide (f a=f b):=by
 rw[Bool.eq_iff_iff,decide_eq_true_eq]
 unfold togO
 rw[List.any_eq_true]
 constructor
 ·rintro ⟨o,ho,e⟩
  unfold grpO outU at ho
  rw[List.map_map]at ho
  obtain ⟨r,hr,rfl⟩:=List.mem_map.1 ho
  simp only[Function.comp,Bool.and_eq_true,List.contains_iff_mem]at e
  exact (memU_in.1 e.1).2.trans (memU_in.1 e.2).2.symm
 ·intro e
  have h1:f a<T.length:=Nat.lt_of_le_of_lt (hf.le a ha) ha
  refine ⟨(T.getD (bestU (ltG T) f T.length (f a)) ([],[]),memU f T.length (f a)),?_,?_⟩
  ·unfold grpO outU
   rw[List.map_map]
   exact List.mem_map.2 ⟨f a,rootsU_in.2 ⟨h1,hf.id a ha⟩,rfl⟩
  ·simp only[Bool.and_eq_true,List.contains_iff_mem]
   exact ⟨memU_in.2 ⟨ha,rfl⟩,memU_in.2 ⟨hb,e.symm⟩⟩
end
theorem mem_grpO{T:List (Bst×List Bst)}{f:Nat→Nat}:∀o∈grpO T f,∀j∈o.2,j<T.length:=fun o ho j hj=>by
 unfold grpO outU at ho
 rw[List.map_map]at ho
 obtain ⟨r,hr,rfl⟩:=List.mem_map.1 ho
 exact (memU_in.1 hj).1
theorem mat_at{M:Mem}{P:Program}{U:Value}{n:Nat}{F:Nat→Nat→Bool}{T1 T2:TypeId}(h:LL M U (matF n F))(k1:kindT P T1=some false)(z1:szO P T1=some 1)(k2:kindT P T2=some false)(z2:szO P T2=some 1){a b:Nat}(ha:a<n)(hb:b<n) :
  nilS U=false∧slen U=n∧isSl U=true∧U.oneCell'=true∧∃w,lookM P T1 M (elemP U 1 a)=some w∧w.oneCell'=true∧isSl w=true∧slen w=n∧nilS w=false∧lookM P T2 M (elemP w 1 b)=some (.bool (F a b)):=by
 obtain ⟨us,hu⟩:=h
 have hl:=matF_len (n:=n) (F:=F)
 have ha2:a<(matF n F).length:=by omega
 have h1:=hu.at_ a ha2
 have h2:us[a]? = some (us[a]'(by have:=hu.len;omega)):=List.getElem?_eq_getElem _
 rw[matF_at ha,rowF_len]at h1
 refine ⟨hu.out.nn (by omega),by rw[hu.out.len,hl],hu.out.sl,one_sl hu.out.sl,_,hu.out.at1 k1 z1 h2,one_sl h1.sl,h1.sl,h1.len,h1.nn (by omega),?_⟩
 exact h1.at1 k2 z2 (by rw[List.getElem?_eq_getElem (by rw[rowF_len];exact hb),rowF_at hb])
section
variable {M:Mem}{K:AV→Hp→Mem→Prop}
theorem esign_ok(f:Fa)(he:faE f=0)(hf:faOk M f)(hK:∀u' M',Mem.le M M'→IsL M' sbV u' (faB f).2→FreshS M u'→K (.ext (sgT (faB f).1 u' 0)) [] M'):CallS Tryz.prog 24 [.ext (faV f.1 f.2.1 f.2.2.1 f.2.2.2.1 f.2.2.2.2.1)] [] M [] K:=by
 obtain ⟨p,t,e,m,u,X⟩:=f
 obtain ⟨a1,a2,a3,a4⟩:=hf
 have he:(if (usB p t&&plB e)=true then (if 64<X.length then (2:Int) else 0) else 1)=0:=he
 have e3:(usB p t&&plB e)=true:=by
  cases h:(usB p t&&plB e) with
  | true=>rfl
  | false=>rw[h,if_neg (by decide)]at he;cases he
 rw[e3,if_pos rfl]at he
 have e4:¬64<X.length:=fun h=>by rw[if_pos h]at he;cases he
 exact sign_ok p t e m u X a1 a2 a3 a4 (fun h=>by rw[e3]at h;cases h) (fun _ h=>absurd h e4) fun _ _ u' M' c1 c2 c3=>hK u' M' c1 c2 c3
structure sixF (f:Fa):Prop where
 e:faE f=0
 cs:∀c∈f.2.2.2.2.2,c.1.length=1∧c.2.1=[120,46,103,111]
end
theorem nodup_sub:∀{l m:List Nat},l.Nodup→(∀x∈l,x∈m)→l.length≤m.length
 | [],m,_,_=>Nat.zero_le _
 | a :: l,m,h,hs=>by
  obtain ⟨h1,h2⟩:=List.nodup_cons.1 h
  have ha:=hs a List.mem_cons_self
  have h3:=nodup_sub (m:=m.erase a) h2 fun x hx=>(List.mem_erase_of_ne (fun e=>h1 (by rw[←e];exact hx))).2 (hs x (List.mem_cons_of_mem _ hx))
  have h4:=List.length_erase_of_mem ha
  have h5:0<m.length:=List.length_pos_of_mem ha
  rw[List.length_cons];omega
theorem nodup_map{f:Nat→Nat}:∀{l:List Nat},l.Nodup→(∀x∈l,∀y∈l,f x=f y→x=y)→(l.map f).Nodup
 | [],_,_=>List.nodup_nil
 | a :: l,h,hf=>by
  obtain ⟨h1,h2⟩:=List.nodup_cons.1 h
  rw[List.map_cons,List.nodup_cons]
  refine ⟨fun hm=>?_,nodup_map h2 fun x hx y hy=>hf x (List.mem_cons_of_mem _ hx) y (List.mem_cons_of_mem _ hy)⟩
  obtain ⟨x,hx,e⟩:=List.mem_map.1 hm
  have:=hf x (List.mem_cons_of_mem _ hx) a List.mem_cons_self e
  exact h1 (this▸hx)
structure Perm2 (n:Nat) (T S:List (Bst×List Bst)) (p z:Nat→Nat):Prop where
 lt:T.length=n
 ls:S.length=n
 pp:∀i,i<n→p i<n∧z (p i)=i
 zz:∀i,i<n→z i<n∧p (z i)=i
 at_:∀i,i<n→S.getD i ([],[])=T.getD (z i) ([],[])
section
variable {n:Nat}{T S:List (Bst×List Bst)}{p z:Nat→Nat}{d:Int}{f g:Nat→Nat}
theorem Perm2.symm(h:Perm2 n T S p z):Perm2 n S T z p:=⟨h.ls,h.lt,h.zz,h.pp,fun i hi=>by rw[h.at_ _ (h.pp i hi).1,(h.pp i hi).2]⟩
end
theorem insZ_getD{Z:List Nat}{a x q:Nat}(ha:a≤Z.length):(Z.take a++x :: Z.drop a).getD q 0=if q<a then Z.getD q 0 else if q=a then x else Z.getD (q-1) 0:=by
 have hl:(Z.take a).length=a:=by rw[List.length_take,Nat.min_eq_left ha]
 rw[List.getD_eq_getElem?_getD,List.getD_eq_getElem?_getD,List.getD_eq_getElem?_getD]
 by_cases h:q<a
 ·rw[if_pos h,List.getElem?_append_left (by omega),List.getElem?_take_of_lt h]
 ·rw[if_neg h,List.getElem?_append_right (by omega),hl]
  by_cases e:q=a
  ·rw[if_pos e,e,Nat.sub_self];rfl
  ·rw[if_neg e,show q-a=(q-1-a)+1 by omega,List.getElem?_cons_succ,List.getElem?_drop,show a+(q-1-a)=q-1 by omega]
structure InsI (i:Nat) (P Z:List Nat):Prop where
 len:Z.length=i
 at_:∀j,j<i→P.getD j 0<i∧Z.getD (P.getD j 0) 0=j
 mem:∀k,k<i→Z.getD k 0<i∧P.getD (Z.getD k 0) 0=k
theorem InsI.zero{P:List Nat}:InsI 0 P []:=⟨rfl,fun j h=>absurd h (Nat.not_lt_zero _),fun j h=>absurd h (Nat.not_lt_zero _)⟩
def bumpN(a x:Nat):Nat:=if a≤x then x+1 else x
theorem InsI.next{i a:Nat}{P Z R:List Nat}(h:InsI i P Z)(ha:a≤i)(hR:∀j,j<i→R.getD j 0=bumpN a (P.getD j 0))(hRi:R.getD i 0=a):InsI (i+1) R (Z.take a++i :: Z.drop a):=by
 have hz:a≤Z.length:=by rw[h.len];exact ha
 refine ⟨by rw[List.length_append,List.length_cons,List.length_take,List.length_drop,h.len];omega,fun j hj=>?_,fun k hk=>?_⟩
 ·rw[insZ_getD hz]
  by_cases e:j=i
  ·subst e
   rw[hRi,if_neg (by omega),if_pos rfl]
   exact ⟨by omega,rfl⟩
  ·obtain ⟨h1,h2⟩:=h.at_ j (by omega)
   rw[hR j (by omega)]
   unfold bumpN
   by_cases c:a≤P.getD j 0
   ·rw[if_pos c,if_neg (by omega),if_neg (by omega),Nat.add_sub_cancel]
    exact ⟨by omega,h2⟩
   ·rw[if_neg c,if_pos (by omega)]
    exact ⟨by omega,h2⟩
 ·rw[insZ_getD hz]
  by_cases c:k<a
  ·rw[if_pos c]
   obtain ⟨h1,h2⟩:=h.mem k (by omega)
   rw[hR _ h1,h2]
   unfold bumpN
   rw[if_neg (by omega)]
   exact ⟨by omega,rfl⟩
  ·rw[if_neg c]
   by_cases e:k=a
   ·rw[if_pos e,hRi];exact ⟨by omega,e.symm⟩
   ·rw[if_neg e]
    obtain ⟨h1,h2⟩:=h.mem (k-1) (by omega)
    rw[hR _ h1,h2]
    unfold bumpN
    rw[if_pos (by omega)]
    exact ⟨by omega,by omega⟩
theorem lkB_comm(A B:List Bst):lkB A B=lkB B A:=by
 rw[Bool.eq_iff_iff,lkB_iff,lkB_iff]
 exact ⟨fun ⟨x,h1,h2⟩=>⟨x,h2,h1⟩,fun ⟨x,h1,h2⟩=>⟨x,h2,h1⟩⟩
section
variable {n:Nat}{R S:Nat→Nat→Prop}{f g:Nat→Nat}
def hasA(n:Nat)(S:Nat→Nat→Prop)(f:Nat→Nat)(k:Nat):Prop:=∃m,m<n∧S m n∧f m=f k
theorem new_conn(hf:Lab n R f)(hS:∀i k,S i k→S k i)(hRS:∀i k,i<n→k<n→(S i k↔R i k)){k:Nat}(hk:k<n){y:Nat}(hc:Conn S (n+1) k y):(y<n→f y=f k∨(hasA n S f k∧hasA n S f y))∧(y=n→hasA n S f k):=by
 induction hc with
 | refl _=>exact ⟨fun _=>.inl rfl,fun e=>by omega⟩
 | snoc h1 h2 h3 ih=>
  rename_i y z
  have hy:=h1.lt.2
  refine ⟨fun hz=>?_,fun hz=>?_⟩
  ·by_cases hyn:y<n
   ·have e:=hf.of y z hyn hz ((hRS y z hyn hz).1 h2)
    rcases ih.1 hyn with h4|⟨h4,m,m1,m2,m3⟩
    ·exact .inl (e.symm.trans h4)
    ·exact .inr ⟨h4,m,m1,m2,m3.trans e⟩
   ·have hy2:y=n:=by omega
    subst hy2
    exact .inr ⟨ih.2 rfl,z,hz,hS _ _ h2,rfl⟩
  ·subst hz
   by_cases hyn:y<z
   ·rcases ih.1 hyn with h4|⟨h4,_⟩
    ·exact ⟨y,hyn,h2,h4⟩
    ·exact h4
   ·exact ih.2 (by omega)
theorem new_in(hf:Lab n R f)(hg:Lab (n+1) S g)(hRS:∀i k,i<n→k<n→(S i k↔R i k)){i k:Nat}(hi:i<n)(hk:k<n)(e:f i=f k):g i=g k:=by
 have hc:=hf.to i k hi hk e
 clear hi hk e
 induction hc with
 | refl _=>rfl
 | snoc h1 h2 h3 ih=>exact ih.trans (hg.of _ _ (by have:=h1.lt.2;omega) (by omega) ((hRS _ _ h1.lt.2 h3).2 h2))
theorem new_iff(hf:Lab n R f)(hg:Lab (n+1) S g)(hS:∀i k,S i k→S k i)(hRS:∀i k,i<n→k<n→(S i k↔R i k)){k:Nat}(hk:k<n):g k=g n↔hasA n S f k:=by
 constructor
 ·intro e
  exact (new_conn hf hS hRS hk (hg.to k n (by omega) (by omega) e)).2 rfl
 ·rintro ⟨m,m1,m2,m3⟩
  exact (new_in hf hg hRS hk m1 m3.symm).trans (hg.of m n (by omega) (by omega) m2)
theorem new_two(hf:Lab n R f)(hg:Lab (n+1) S g)(hS:∀i k,S i k→S k i)(hRS:∀i k,i<n→k<n→(S i k↔R i k)){i k:Nat}(hi:i<n)(hk:k<n)(e:g i=g k)(hno:¬hasA n S f i):f i=f k:=by
 rcases (new_conn hf hS hRS hi (hg.to i k (by omega) (by omega) e)).1 hk with h|h
 ·exact h.symm
 ·exact absurd h.1 hno
theorem new_count(hf:Lab n R f)(hg:Lab (n+1) S g)(hS:∀i k,S i k→S k i)(hRS:∀i k,i<n→k<n→(S i k↔R i k)){p:Nat→Bool}(hp:∀k,k<n→(p k=true↔hasA n S f k)):(rootsU g (n+1)).length=((rootsU f n).filter fun r=>!p r).length+1:=by
 have hin:∀j,j<n+1→g j∈rootsU g (n+1):=fun j hj=>rootsU_in.2 ⟨Nat.lt_of_le_of_lt (hg.le j hj) hj,hg.id j hj⟩
 have hL:∀r∈(rootsU f n).filter fun r=>!p r,r<n∧f r=r∧¬hasA n S f r:=fun r hr=>by
  obtain ⟨h1,h2⟩:=List.mem_filter.1 hr
  obtain ⟨h3,h4⟩:=rootsU_in.1 h1
  exact ⟨h3,h4,fun h=>by rw[(hp r h3).2 h]at h2;cases h2⟩
 have e:(((rootsU f n).filter fun r=>!p r).map g++[g n]).length=((rootsU f n).filter fun r=>!p r).length+1:=by rw[List.length_append,List.length_map];rfl
 rw[←e]
 refine Nat.le_antisymm (nodup_sub rootsU_nodup fun r hr=>?_) (nodup_sub ?_ fun y hy=>?_)
 ·obtain ⟨h1,h2⟩:=rootsU_in.1 hr
  by_cases hrn:r<n
  ·by_cases ha:hasA n S f r
   ·have:=(new_iff hf hg hS hRS hrn).2 ha
    rw[h2]at this
    exact List.mem_append_right _ (List.mem_singleton.2 this)
   ·have h3:f r<n:=Nat.lt_of_le_of_lt (hf.le r hrn) hrn
    refine List.mem_append_left _ (List.mem_map.2 ⟨f r,List.mem_filter.2 ⟨rootsU_in.2 ⟨h3,hf.id r hrn⟩,?_⟩,?_⟩)
    ·cases hpr:p (f r) with
     | false=>rfl
     | true=>
      obtain ⟨m,m1,m2,m3⟩:=(hp _ h3).1 hpr
      exact absurd ⟨m,m1,m2,m3.trans (hf.id r hrn)⟩ ha
    ·rw[new_in hf hg hRS h3 hrn (hf.id r hrn),h2]
  ·have:r=n:=by omega
   subst this
   exact List.mem_append_right _ (List.mem_singleton.2 h2.symm)
 ·rw[List.nodup_append]
  refine ⟨nodup_map (List.Nodup.sublist List.filter_sublist rootsU_nodup) fun x hx y hy e=>?_,by simp,fun a ha b hb e=>?_⟩
  ·obtain ⟨x1,x2,x3⟩:=hL x hx
   obtain ⟨y1,y2,_⟩:=hL y hy
   have:=new_two hf hg hS hRS x1 y1 e x3
   rw[x2,y2]at this;exact this
  ·rw[List.mem_singleton.1 hb]at e
   obtain ⟨x,hx,rfl⟩:=List.mem_map.1 ha
   obtain ⟨x1,_,x3⟩:=hL x hx
   exact x3 ((new_iff hf hg hS hRS x1).1 e)
 ·rcases List.mem_append.1 hy with hy|hy
  ·obtain ⟨x,hx,rfl⟩:=List.mem_map.1 hy
   exact hin x (by have:=(hL x hx).1;omega)
  ·rw[List.mem_singleton.1 hy];exact hin n (by omega)
end
def finN(O:List GO)(c:Nat→Bool)(k:Nat):List Nat:=(List.range k).filter fun i=>(O.getD i (([],[]),[])).2.any c
theorem finN_succ{O:List GO}{c:Nat→Bool}{k:Nat}:finN O c (k+1)=if (O.getD k (([],[]),[])).2.any c=true then finN O c k++[k] else finN O c k:=by
 unfold finN
 rw[List.range_succ,List.filter_append]
 by_cases h:(O.getD k (([],[]),[])).2.any c=true
 ·rw[if_pos h,List.filter_cons_of_pos (by exact h)];rfl
 ·rw[if_neg h,List.filter_cons_of_neg (by exact h),List.filter_nil,List.append_nil]
theorem finN_le{O:List GO}{c:Nat→Bool}{k:Nat}:(finN O c k).length≤k:=by
 have:=List.length_filter_le (fun i=>(O.getD i (([],[]),[])).2.any c) (List.range k)
 rw[List.length_range]at this;exact this
theorem finN_in{O:List GO}{c:Nat→Bool}{k i:Nat}(hi:i<k):(finN O c k).contains i=(O.getD i (([],[]),[])).2.any c:=by
 rw[Bool.eq_iff_iff,List.contains_iff_mem]
 unfold finN
 rw[List.mem_filter,List.mem_range]
 exact ⟨fun h=>h.2,fun h=>⟨hi,h⟩⟩
theorem finN_count{O:List GO}{c:Nat→Bool}:∀k,k≤O.length→(finN O c k).length=((O.take k).filter fun o=>o.2.any c).length
 | 0,_=>by simp[finN]
 | k+1,h=>by
  have ih:=finN_count (O:=O) (c:=c) k (by omega)
  have hk:k<O.length:=by omega
  have e:O.getD k (([],[]),[])=O[k]:=by rw[List.getD_eq_getElem?_getD,List.getElem?_eq_getElem hk];rfl
  rw[finN_succ,List.take_succ_eq_append_getElem hk,List.filter_append,List.length_append,←ih,e]
  by_cases hc:O[k].2.any c=true
  ·rw[if_pos hc,List.length_append];simp[hc]
  ·rw[if_neg hc];simp[hc]
section
variable {M:Mem}{K:AV→Hp→Mem→Prop}
def sxSt(M:Mem)(u:Value)(x:Bst)(n i:Nat):St:={env:=[(8,.ext (.int .i64 (i:Int))),(7,.ext (.int .i64 (n:Int))),(1,.ext (.string (bs x))),(0,.ext u)],hp:=[],M:=M,kb:=0,fx:=[]}
theorem sIndex_ok(u:Value)(l:List Bst)(x:Bst)(hu:IsL M sbV u l)(hb:l.length<1000000000)(hK:∀r:Int,((r=-1∧l.contains x=false)∨(0≤r∧l.contains x=true))→K (.ext (.int .i64 r)) [] M):CallS Tryz.prog 47 [.ext u,.ext (.string (bs x))] [] M [] K:=by
 refine inlS (cs:=[]) Tryz.mixed Tryz.func47 rfl (by kernel_rfl) 0 rfl rfl ?_
 simp only[Tryz.f47]
 have uo:=hu.one
 have ul:=hu.len
 have us:=hu.sl
 (replace hb0:=true_and True);refine Go1.mk ?_;repeat' ((first|(with_reducible refine Go1.go ?_)|((with_reducible first|refine brv_mk ?_ ?_|refine gsplitD ?_ ?_|refine gsplitG ?_ ?_)<;>intro h<;>(try simp only[Bool.not_eq_true',Bool.not_eq_false']at h)<;>replace hb0:=h)|(refine And.intro ?_ ?_;(try simp only[sxO]at *);omega)|fail)<;>(try simp (maxSteps:=1000000) only [hb0,uo,ul,us,bs_mk,bs_app,bs_ext,bs_size,bs_toList,bs_at,bs_cells,List.take_length,imp_ga,guard_pk,guard_pk2,↓hold_pre,awayP,runOps,regK,step1,newK,genR,appR,obl,buildR,Value.cells,closeK,keepH,outV,retK,ret1,retC,RetV,Option.getD,runD,stepD,afterK,undef,simprocAttr,sxB,↓sxD,sxE,sxTab]))
 refine ⟨fun m z=>∃i,i≤l.length∧(∀y∈l.take i,y≠x)∧m=l.length-i∧z=sxSt M u x l.length i,⟨l.length,sxSt M u x l.length 0,le_sub ⟨rfl,rfl,rfl,rfl,trivial⟩ trivial rfl rfl rfl (keepLt0 _),⟨0,by omega,by simp,rfl,rfl⟩⟩,?_⟩
 rintro m z ⟨i,hi,hno,rfl,rfl⟩
 by_cases hlt:i<l.length
 case neg=>
  have d1:decide ((i:Int)<(l.length:Int))=false:=by rw[decide_eq_false_iff_not];omega
  obtain rfl:i=l.length:=by omega
  have e:l.contains x=false:=by
   rw[List.take_length]at hno
   cases h:l.contains x with
   | false=>rfl
   | true=>exact absurd rfl (hno x (by simpa using h))
  (replace hb0:=true_and True);refine Go1.mk ?_;repeat' ((first|(with_reducible refine Go1.go ?_)|((with_reducible first|refine brv_mk ?_ ?_|refine gsplitD ?_ ?_|refine gsplitG ?_ ?_)<;>intro h<;>(try simp only[Bool.not_eq_true',Bool.not_eq_false']at h)<;>replace hb0:=h)|(refine And.intro ?_ ?_;(try simp only[sxO]at *);omega)|fail)<;>(try simp (maxSteps:=1000000) only [hb0,sxSt,d1,bs_mk,bs_app,bs_ext,bs_size,bs_toList,bs_at,bs_cells,List.take_length,imp_ga,guard_pk,guard_pk2,↓hold_pre,awayP,runOps,regK,step1,newK,genR,appR,obl,buildR,Value.cells,closeK,keepH,outV,retK,ret1,retC,RetV,Option.getD,runD,stepD,afterK,undef,simprocAttr,sxB,↓sxD,sxE,sxTab]))
  exact hK _ (.inl ⟨rfl,e⟩)
 have d1:decide ((i:Int)<(l.length:Int))=true:=by rw[decide_eq_true_eq];omega
 have z2:(0:Int)≤(i:Int):=by omega
 have z3:(i:Int)<(l.length:Int):=by omega
 have n1:=hu.nn hlt
 have p1:=hu.at (P:=Tryz.prog) (T:=9) tk9 tz9 hlt
 have wi:IntKind.i64.wrap ((i:Int)+1)=((i+1:Nat):Int):=by rw[wrap_id (by omega) (by omega)];omega
 have htk:l.take (i+1)=l.take i++[l[i]]:=by rw[List.take_add_one,List.getElem?_eq_getElem hlt];rfl
 by_cases hx:l[i]=x
 ·have d2:(x==l[i])=true:=by simp[hx]
  have e:l.contains x=true:=by rw[List.contains_iff_mem];exact hx▸List.getElem_mem hlt
  (replace hb0:=true_and True);refine Go1.mk ?_;repeat' ((first|(with_reducible refine Go1.go ?_)|((with_reducible first|refine brv_mk ?_ ?_|refine gsplitD ?_ ?_|refine gsplitG ?_ ?_)<;>intro h<;>(try simp only[Bool.not_eq_true',Bool.not_eq_false']at h)<;>replace hb0:=h)|(refine And.intro ?_ ?_;(try simp only[sxO]at *);omega)|fail)<;>(try simp (maxSteps:=1000000) only [hb0,sxSt,sbV,d1,d2,z2,z3,n1,p1,uo,ul,us,bs_mk,bs_app,bs_ext,bs_size,bs_toList,bs_at,bs_cells,List.take_length,imp_ga,guard_pk,guard_pk2,↓hold_pre,awayP,runOps,regK,step1,newK,genR,appR,obl,buildR,Value.cells,closeK,keepH,outV,retK,ret1,retC,RetV,Option.getD,runD,stepD,afterK,undef,simprocAttr,sxB,↓sxD,sxE,sxTab]))
  exact hK _ (.inr ⟨z2,e⟩)
 ·have d2:(x==l[i])=false:=by simpa using fun e=>hx (Eq.symm e)
  (replace hb0:=true_and True);refine Go1.mk ?_;repeat' ((first|(with_reducible refine Go1.go ?_)|((with_reducible first|refine brv_mk ?_ ?_|refine gsplitD ?_ ?_|refine gsplitG ?_ ?_)<;>intro h<;>(try simp only[Bool.not_eq_true',Bool.not_eq_false']at h)<;>replace hb0:=h)|(refine And.intro ?_ ?_;(try simp only[sxO]at *);omega)|fail)<;>(try simp (maxSteps:=1000000) only [hb0,sxSt,sbV,d1,d2,z2,z3,n1,p1,wi,uo,ul,us,bs_mk,bs_app,bs_ext,bs_size,bs_toList,bs_at,bs_cells,List.take_length,imp_ga,guard_pk,guard_pk2,↓hold_pre,awayP,runOps,regK,step1,newK,genR,appR,obl,buildR,Value.cells,closeK,keepH,outV,retK,ret1,retC,RetV,Option.getD,runD,stepD,afterK,undef,simprocAttr,sxB,↓sxD,sxE,sxTab]))
  refine ⟨l.length-(i+1),sxSt M u x l.length (i+1),by omega,le_sub ⟨rfl,rfl,rfl,rfl,trivial⟩ trivial rfl rfl rfl (keepLt0 _),i+1,by omega,?_,rfl,rfl⟩
  rw[htk]
  intro y hy
  rcases List.mem_append.1 hy with hy|hy
  ·exact hno y hy
  ·rw[List.mem_singleton.1 hy];exact hx
theorem sContains_ok(u:Value)(l:List Bst)(x:Bst)(hu:IsL M sbV u l)(hb:l.length<1000000000)(hK:K (.ext (.bool (l.contains x))) [] M):CallS Tryz.prog 29 [.ext u,.ext (.string (bs x))] [] M [] K:=by
 refine inlS (cs:=[]) Tryz.mixed Tryz.func29 rfl (by kernel_rfl) 0 rfl rfl ?_
 simp only[Tryz.f29]
 have uo:=hu.one
 (replace hb0:=true_and True);refine Go1.mk ?_;repeat' ((first|(with_reducible refine Go1.go ?_)|((with_reducible first|refine brv_mk ?_ ?_|refine gsplitD ?_ ?_|refine gsplitG ?_ ?_)<;>intro h<;>(try simp only[Bool.not_eq_true',Bool.not_eq_false']at h)<;>replace hb0:=h)|(((with_reducible refine isCall (f:=47) ?_);refine callA_nil (by kernel_rfl) ?_;refine (sIndex_ok u l x hu hb (fun r hr=>Stop.mk ?_))))|(refine And.intro ?_ ?_;(try simp only[sxO]at *);omega)|fail)<;>(try simp (maxSteps:=1000000) only [hb0,uo,bs_mk,bs_app,bs_ext,bs_size,bs_toList,bs_at,bs_cells,List.take_length,imp_ga,guard_pk,guard_pk2,↓hold_pre,awayP,runOps,regK,step1,newK,genR,appR,obl,buildR,Value.cells,closeK,keepH,outV,retK,ret1,retC,RetV,Option.getD,runD,stepD,afterK,undef,simprocAttr,sxB,↓sxD,sxE,sxTab]))
 rcases hr with ⟨rfl,e⟩|⟨h0,e⟩
 ·rw[e]at hK
  refine Stop.go ?_
  (replace hb0:=true_and True);refine Go1.mk ?_;repeat' ((first|(with_reducible refine Go1.go ?_)|((with_reducible first|refine brv_mk ?_ ?_|refine gsplitD ?_ ?_|refine gsplitG ?_ ?_)<;>intro h<;>(try simp only[Bool.not_eq_true',Bool.not_eq_false']at h)<;>replace hb0:=h)|(refine And.intro ?_ ?_;(try simp only[sxO]at *);omega)|fail)<;>(try simp (maxSteps:=1000000) only [hb0,uo,ge_iff_le,bs_mk,bs_app,bs_ext,bs_size,bs_toList,bs_at,bs_cells,List.take_length,imp_ga,guard_pk,guard_pk2,↓hold_pre,awayP,runOps,regK,step1,newK,genR,appR,obl,buildR,Value.cells,closeK,keepH,outV,retK,ret1,retC,RetV,Option.getD,runD,stepD,afterK,undef,simprocAttr,sxB,↓sxD,sxE,sxTab]))
  exact hK
 ·have d1:decide ((0:Int)≤r)=true:=decide_eq_true h0
  rw[e]at hK
  refine Stop.go ?_
  (replace hb0:=true_and True);refine Go1.mk ?_;repeat' ((first|(with_reducible refine Go1.go ?_)|((with_reducible first|refine brv_mk ?_ ?_|refine gsplitD ?_ ?_|refine gsplitG ?_ ?_)<;>intro h<;>(try simp only[Bool.not_eq_true',Bool.not_eq_false']at h)<;>replace hb0:=h)|(refine And.intro ?_ ?_;(try simp only[sxO]at *);omega)|fail)<;>(try simp (maxSteps:=1000000) only [hb0,uo,d1,ge_iff_le,bs_mk,bs_app,bs_ext,bs_size,bs_toList,bs_at,bs_cells,List.take_length,imp_ga,guard_pk,guard_pk2,↓hold_pre,awayP,runOps,regK,step1,newK,genR,appR,obl,buildR,Value.cells,closeK,keepH,outV,retK,ret1,retC,RetV,Option.getD,runD,stepD,afterK,undef,simprocAttr,sxB,↓sxD,sxE,sxTab]))
  exact hK
structure PtM (M:Mem) (T:TypeId) (p v:Value):Prop where
 pt:isPt p=true
 at_:lookM Tryz.prog T M p=some v
 one:p.oneCell'=true
theorem PtM.le{M M':Mem}{T:TypeId}{p v:Value}(h:PtM M T p v)(hM:Mem.le M M'):PtM M' T p v:=⟨h.pt,lookM_le hM h.at_,h.one⟩
theorem fkey_ok(p w:Value)(own:List Bst)(k:Bst)(hp:PtM M 39 p w)(hw:IsL M sbV w own)(hb:own.length<1000000000)(hK:K (.ext (.bool (own.contains k))) [] M):CallS Tryz.prog 28 [.ext (.string (bs k)),.ext p] [] M [] K:=by
 refine inlS (cs:=[]) Tryz.mixed Tryz.func28 rfl (by kernel_rfl) 0 rfl rfl ?_
 simp only[Tryz.f28]
 have wo:=hw.one
 have pp:=hp.pt
 have pa:=hp.at_
 have po:=hp.one
 (replace hb0:=true_and True);refine Go1.mk ?_;repeat' ((first|(with_reducible refine Go1.go ?_)|((with_reducible first|refine brv_mk ?_ ?_|refine gsplitD ?_ ?_|refine gsplitG ?_ ?_)<;>intro h<;>(try simp only[Bool.not_eq_true',Bool.not_eq_false']at h)<;>replace hb0:=h)|(((with_reducible refine isCall (f:=29) ?_);refine callA_nil (by kernel_rfl) ?_;refine (sContains_ok w own k hw hb ?_)))|(refine And.intro ?_ ?_;(try simp only[sxO]at *);omega)|fail)<;>(try simp (maxSteps:=1000000) only [hb0,wo,pp,pa,po,bs_mk,bs_app,bs_ext,bs_size,bs_toList,bs_at,bs_cells,List.take_length,imp_ga,guard_pk,guard_pk2,↓hold_pre,awayP,runOps,regK,step1,newK,genR,appR,obl,buildR,Value.cells,closeK,keepH,outV,retK,ret1,retC,RetV,Option.getD,runD,stepD,afterK,undef,simprocAttr,sxB,↓sxD,sxE,sxTab]))
 exact hK
def sfSt(M:Mem)(u p:Value)(n i:Nat):St:={env:=[(8,.ext (.int .i64 (i:Int))),(7,.ext (.int .i64 (n:Int))),(1,.fn 28 [.ext p]),(0,.ext u)],hp:=[],M:=M,kb:=0,fx:=[]}
theorem sIndexF_ok(u p w:Value)(l own:List Bst)(hu:IsL M sbV u l)(hb:l.length<1000000000)(hp:PtM M 39 p w)(hw:IsL M sbV w own)(hb2:own.length<1000000000)(hK:∀r:Int,((r=-1∧lkB l own=false)∨(0≤r∧lkB l own=true))→K (.ext (.int .i64 r)) [] M):CallS Tryz.prog 46 [.ext u,.fn 28 [.ext p]] [] M [] K:=by
 refine inlS (cs:=[]) Tryz.mixed Tryz.func46 rfl (by kernel_rfl) 0 rfl rfl ?_
 simp only[Tryz.f46]
 have uo:=hu.one
 have ul:=hu.len
 have us:=hu.sl
 have po:=hp.one
 (replace hb0:=true_and True);refine Go1.mk ?_;repeat' ((first|(with_reducible refine Go1.go ?_)|((with_reducible first|refine brv_mk ?_ ?_|refine gsplitD ?_ ?_|refine gsplitG ?_ ?_)<;>intro h<;>(try simp only[Bool.not_eq_true',Bool.not_eq_false']at h)<;>replace hb0:=h)|(refine And.intro ?_ ?_;(try simp only[sxO]at *);omega)|fail)<;>(try simp (maxSteps:=1000000) only [hb0,uo,ul,us,po,bs_mk,bs_app,bs_ext,bs_size,bs_toList,bs_at,bs_cells,List.take_length,imp_ga,guard_pk,guard_pk2,↓hold_pre,awayP,runOps,regK,step1,newK,genR,appR,obl,buildR,Value.cells,closeK,keepH,outV,retK,ret1,retC,RetV,Option.getD,runD,stepD,afterK,undef,simprocAttr,sxB,↓sxD,sxE,sxTab]))
 refine ⟨fun m z=>∃i,i≤l.length∧(∀y∈l.take i,own.contains y=false)∧m=l.length-i∧z=sfSt M u p l.length i,⟨l.length,sfSt M u p l.length 0,le_sub ⟨rfl,rfl,rfl,rfl,trivial⟩ trivial rfl rfl rfl (keepLt0 _),⟨0,by omega,by simp,rfl,rfl⟩⟩,?_⟩
 rintro m z ⟨i,hi,hno,rfl,rfl⟩
 by_cases hlt:i<l.length
 case neg=>
  have d1:decide ((i:Int)<(l.length:Int))=false:=by rw[decide_eq_false_iff_not];omega
  obtain rfl:i=l.length:=by omega
  rw[List.take_length]at hno
  have e:lkB l own=false:=by
   unfold lkB
   rw[List.any_eq_false]
   intro y hy;rw[hno y hy];simp
  (replace hb0:=true_and True);refine Go1.mk ?_;repeat' ((first|(with_reducible refine Go1.go ?_)|((with_reducible first|refine brv_mk ?_ ?_|refine gsplitD ?_ ?_|refine gsplitG ?_ ?_)<;>intro h<;>(try simp only[Bool.not_eq_true',Bool.not_eq_false']at h)<;>replace hb0:=h)|(refine And.intro ?_ ?_;(try simp only[sxO]at *);omega)|fail)<;>(try simp (maxSteps:=1000000) only [hb0,sfSt,d1,bs_mk,bs_app,bs_ext,bs_size,bs_toList,bs_at,bs_cells,List.take_length,imp_ga,guard_pk,guard_pk2,↓hold_pre,awayP,runOps,regK,step1,newK,genR,appR,obl,buildR,Value.cells,closeK,keepH,outV,retK,ret1,retC,RetV,Option.getD,runD,stepD,afterK,undef,simprocAttr,sxB,↓sxD,sxE,sxTab]))
  exact hK _ (.inl ⟨rfl,e⟩)
 have d1:decide ((i:Int)<(l.length:Int))=true:=by rw[decide_eq_true_eq];omega
 have z2:(0:Int)≤(i:Int):=by omega
 have z3:(i:Int)<(l.length:Int):=by omega
 have n1:=hu.nn hlt
 have p1:=hu.at (P:=Tryz.prog) (T:=9) tk9 tz9 hlt
 have wi:IntKind.i64.wrap ((i:Int)+1)=((i+1:Nat):Int):=by rw[wrap_id (by omega) (by omega)];omega
 have htk:l.take (i+1)=l.take i++[l[i]]:=by rw[List.take_add_one,List.getElem?_eq_getElem hlt];rfl
 have hli:=List.getElem_mem hlt
 generalize l[i]=x at *
 (replace hb0:=true_and True);refine Go1.mk ?_;repeat' ((first|(with_reducible refine Go1.go ?_)|((with_reducible first|refine brv_mk ?_ ?_|refine gsplitD ?_ ?_|refine gsplitG ?_ ?_)<;>intro h<;>(try simp only[Bool.not_eq_true',Bool.not_eq_false']at h)<;>replace hb0:=h)|(((with_reducible refine isCall (f:=28) ?_);refine callA_nil (by kernel_rfl) ?_;refine (fkey_ok p w own x hp hw hb2 (Stop.mk ?_))))|(refine And.intro ?_ ?_;(try simp only[sxO]at *);omega)|fail)<;>(try simp (maxSteps:=1000000) only [hb0,sfSt,sbV,d1,z2,z3,n1,p1,uo,ul,us,po,bs_mk,bs_app,bs_ext,bs_size,bs_toList,bs_at,bs_cells,List.take_length,imp_ga,guard_pk,guard_pk2,↓hold_pre,awayP,runOps,regK,step1,newK,genR,appR,obl,buildR,Value.cells,closeK,keepH,outV,retK,ret1,retC,RetV,Option.getD,runD,stepD,afterK,undef,simprocAttr,sxB,↓sxD,sxE,sxTab]))
 cases hx:own.contains x with
 | true=>
  have e:lkB l own=true:=by
   unfold lkB
   rw[List.any_eq_true]
   exact ⟨x,hli,hx⟩
  refine Stop.go ?_
  (replace hb0:=true_and True);refine Go1.mk ?_;repeat' ((first|(with_reducible refine Go1.go ?_)|((with_reducible first|refine brv_mk ?_ ?_|refine gsplitD ?_ ?_|refine gsplitG ?_ ?_)<;>intro h<;>(try simp only[Bool.not_eq_true',Bool.not_eq_false']at h)<;>replace hb0:=h)|(refine And.intro ?_ ?_;(try simp only[sxO]at *);omega)|fail)<;>(try simp (maxSteps:=1000000) only [hb0,hx,uo,ul,us,po,bs_mk,bs_app,bs_ext,bs_size,bs_toList,bs_at,bs_cells,List.take_length,imp_ga,guard_pk,guard_pk2,↓hold_pre,awayP,runOps,regK,step1,newK,genR,appR,obl,buildR,Value.cells,closeK,keepH,outV,retK,ret1,retC,RetV,Option.getD,runD,stepD,afterK,undef,simprocAttr,sxB,↓sxD,sxE,sxTab]))
  exact hK _ (.inr ⟨z2,e⟩)
 | false=>
  refine Stop.go ?_
  (replace hb0:=true_and True);refine Go1.mk ?_;repeat' ((first|(with_reducible refine Go1.go ?_)|((with_reducible first|refine brv_mk ?_ ?_|refine gsplitD ?_ ?_|refine gsplitG ?_ ?_)<;>intro h<;>(try simp only[Bool.not_eq_true',Bool.not_eq_false']at h)<;>replace hb0:=h)|(refine And.intro ?_ ?_;(try simp only[sxO]at *);omega)|fail)<;>(try simp (maxSteps:=1000000) only [hb0,hx,wi,uo,ul,us,po,bs_mk,bs_app,bs_ext,bs_size,bs_toList,bs_at,bs_cells,List.take_length,imp_ga,guard_pk,guard_pk2,↓hold_pre,awayP,runOps,regK,step1,newK,genR,appR,obl,buildR,Value.cells,closeK,keepH,outV,retK,ret1,retC,RetV,Option.getD,runD,stepD,afterK,undef,simprocAttr,sxB,↓sxD,sxE,sxTab]))
  refine ⟨l.length-(i+1),sfSt M u p l.length (i+1),by omega,le_sub ⟨rfl,rfl,rfl,rfl,trivial⟩ trivial rfl rfl rfl (keepLt0 _),i+1,by omega,?_,rfl,rfl⟩
  rw[htk]
  intro y hy
  rcases List.mem_append.1 hy with hy|hy
  ·exact hno y hy
  ·rw[List.mem_singleton.1 hy];exact hx
theorem sContainsF_ok(u p w:Value)(l own:List Bst)(hu:IsL M sbV u l)(hb:l.length<1000000000)(hp:PtM M 39 p w)(hw:IsL M sbV w own)(hb2:own.length<1000000000)(hK:K (.ext (.bool (lkB l own))) [] M):CallS Tryz.prog 27 [.ext u,.fn 28 [.ext p]] [] M [] K:=by
 refine inlS (cs:=[]) Tryz.mixed Tryz.func27 rfl (by kernel_rfl) 0 rfl rfl ?_
 simp only[Tryz.f27]
 have uo:=hu.one
 have po:=hp.one
 (replace hb0:=true_and True);refine Go1.mk ?_;repeat' ((first|(with_reducible refine Go1.go ?_)|((with_reducible first|refine brv_mk ?_ ?_|refine gsplitD ?_ ?_|refine gsplitG ?_ ?_)<;>intro h<;>(try simp only[Bool.not_eq_true',Bool.not_eq_false']at h)<;>replace hb0:=h)|(((with_reducible refine isCall (f:=46) ?_);refine callA_nil (by kernel_rfl) ?_;refine (sIndexF_ok u p w l own hu hb hp hw hb2 (fun r hr=>Stop.mk ?_))))|(refine And.intro ?_ ?_;(try simp only[sxO]at *);omega)|fail)<;>(try simp (maxSteps:=1000000) only [hb0,uo,po,bs_mk,bs_app,bs_ext,bs_size,bs_toList,bs_at,bs_cells,List.take_length,imp_ga,guard_pk,guard_pk2,↓hold_pre,awayP,runOps,regK,step1,newK,genR,appR,obl,buildR,Value.cells,closeK,keepH,outV,retK,ret1,retC,RetV,Option.getD,runD,stepD,afterK,undef,simprocAttr,sxB,↓sxD,sxE,sxTab]))
 rcases hr with ⟨rfl,e⟩|⟨h0,e⟩
 ·rw[e]at hK
  refine Stop.go ?_
  (replace hb0:=true_and True);refine Go1.mk ?_;repeat' ((first|(with_reducible refine Go1.go ?_)|((with_reducible first|refine brv_mk ?_ ?_|refine gsplitD ?_ ?_|refine gsplitG ?_ ?_)<;>intro h<;>(try simp only[Bool.not_eq_true',Bool.not_eq_false']at h)<;>replace hb0:=h)|(refine And.intro ?_ ?_;(try simp only[sxO]at *);omega)|fail)<;>(try simp (maxSteps:=1000000) only [hb0,uo,po,ge_iff_le,bs_mk,bs_app,bs_ext,bs_size,bs_toList,bs_at,bs_cells,List.take_length,imp_ga,guard_pk,guard_pk2,↓hold_pre,awayP,runOps,regK,step1,newK,genR,appR,obl,buildR,Value.cells,closeK,keepH,outV,retK,ret1,retC,RetV,Option.getD,runD,stepD,afterK,undef,simprocAttr,sxB,↓sxD,sxE,sxTab]))
  exact hK
 ·have d1:decide ((0:Int)≤r)=true:=decide_eq_true h0
  rw[e]at hK
  refine Stop.go ?_
  (replace hb0:=true_and True);refine Go1.mk ?_;repeat' ((first|(with_reducible refine Go1.go ?_)|((with_reducible first|refine brv_mk ?_ ?_|refine gsplitD ?_ ?_|refine gsplitG ?_ ?_)<;>intro h<;>(try simp only[Bool.not_eq_true',Bool.not_eq_false']at h)<;>replace hb0:=h)|(refine And.intro ?_ ?_;(try simp only[sxO]at *);omega)|fail)<;>(try simp (maxSteps:=1000000) only [hb0,uo,po,d1,ge_iff_le,bs_mk,bs_app,bs_ext,bs_size,bs_toList,bs_at,bs_cells,List.take_length,imp_ga,guard_pk,guard_pk2,↓hold_pre,awayP,runOps,regK,step1,newK,genR,appR,obl,buildR,Value.cells,closeK,keepH,outV,retK,ret1,retC,RetV,Option.getD,runD,stepD,afterK,undef,simprocAttr,sxB,↓sxD,sxE,sxTab]))
  exact hK
def mlk(T:List (Bst×List Bst))(d:Int)(own:List Bst)(m:Nat):Bool:=lkB (sgK T d m) own
theorem fmem_ok(p1 p2 p3 v w:Value)(S:List SG)(T:List (Bst×List Bst))(d:Int)(own:List Bst)(m:Nat)(h1:PtM M 58 p1 v)(h2:PtM M 3 p2 (.int .i64 d))(h3:PtM M 39 p3 w)(hv:IsR M 2 SG.c v S)(hS:∀s∈S,okSG M s)(hT:S.map SG.t=T)(hTok:∀s∈T,okB s.1 s.2)(hl:S.length<1000000)(hw:IsL M sbV w own)(hb2:own.length<1000000000)(hm:m<S.length)(hK:∀M',Mem.le M M'→K (.ext (.bool (mlk T d own m))) [] M'):CallS Tryz.prog 26 [.ext (.int .i64 (m:Int)),.ext p1,.ext p2,.ext p3] [] M [] K:=by
 refine inlS (cs:=[]) Tryz.mixed Tryz.func26 rfl (by kernel_rfl) 0 rfl rfl ?_
 simp only[Tryz.f26]
 have vo:=hv.one
 have vl:=hv.len
 have vs:=hv.sl
 have wo:=hw.one
 have a1:=h1.pt
 have a2:=h1.at_
 have a3:=h1.one
 have b1:=h2.pt
 have b2:=h2.at_
 have b3:=h2.one
 have c3:=h3.one
 have z2:(0:Int)≤(m:Int):=by omega
 have z3:(m:Int)<(S.length:Int):=by omega
 have n1:=hv.nn hm
 have q1:lookM Tryz.prog 41 M (elemP v 2 m)=some (.agg #[.string (bs S[m].m),S[m].u]):=hv.at (P:=Tryz.prog) (T:=41) (fun _=>rfl) tk41 tz41 hm
 have hs:=hS _ (List.getElem_mem hm)
 have hkT:sgK T d m=keysB S[m].m S[m].C d:=by
  rw[sgK_at (show m<T.length by rw[←hT,List.length_map];exact hm)]
  have:T[m]'(by rw[←hT,List.length_map];exact hm)=S[m].t:=by simp only[←hT,List.getElem_map]
  rw[this];rfl
 have hB:okB S[m].m S[m].C:=hTok S[m].t (by rw[←hT];exact List.mem_map_of_mem (List.getElem_mem hm))
 unfold mlk at hK
 rw[hkT]at hK
 have hs:IsL M sbV S[m].u S[m].C:=hs
 have so:=hs.one
 (replace hb0:=true_and True);refine Go1.mk ?_;repeat' ((first|(with_reducible refine Go1.go ?_)|((with_reducible first|refine brv_mk ?_ ?_|refine gsplitD ?_ ?_|refine gsplitG ?_ ?_)<;>intro h<;>(try simp only[Bool.not_eq_true',Bool.not_eq_false']at h)<;>replace hb0:=h)|(((with_reducible refine isCall0 (f:=18) ?_);refine callA0_nil (by kernel_rfl) ?_;refine (gkeys_ok S[m].m S[m].u S[m].C d hs hB (fun kv M1 m1 g1 _=>Stop.mk ?_))))|((with_reducible refine isDraw [some 6,some 7,some 8,some 9,some 10,some 11,some 12,some 13,some 5] (by decide) ?_);refine draw_rule [(0,[]),(1,[0]),(2,[]),(3,[]),(4,[0,3]),(6,[0,3,4]),(5,[]),(7,[]),(8,[])] [[],[],[0,1],[0,1,2],[],[0,1,2,3,4],[],[0,1,2,3,4,5,6],[0,1,2,3,4,5,6,7]] [6,7,8,9,10,11,12] [] (by kernel_rfl) (by kernel_rfl) (by kernel_rfl) (by kernel_rfl) (by exact trivial) ?_)|(refine And.intro ?_ ?_;(try simp only[sxO]at *);omega)|fail)<;>(try simp (maxSteps:=1000000) only [hb0,vo,vl,vs,wo,a1,a2,a3,b1,b2,b3,c3,z2,z3,n1,q1,so,bs_mk,bs_app,bs_ext,bs_size,bs_toList,bs_at,bs_cells,List.take_length,imp_ga,guard_pk,guard_pk2,↓hold_pre,awayP,runOps,regK,step1,newK,genR,appR,obl,buildR,Value.cells,closeK,keepH,outV,retK,ret1,retC,RetV,Option.getD,runD,stepD,afterK,undef,simprocAttr,sxB,↓sxD,sxE,sxTab]))
 have m1:Mem.le M M1:=m1
 have ko:=g1.one
 have hk2:=keysB_two (m:=S[m].m) (C:=S[m].C) (d:=d)
 refine Stop.go ?_
 (replace hb0:=true_and True);refine Go1.mk ?_;repeat' ((first|(with_reducible refine Go1.go ?_)|((with_reducible first|refine brv_mk ?_ ?_|refine gsplitD ?_ ?_|refine gsplitG ?_ ?_)<;>intro h<;>(try simp only[Bool.not_eq_true',Bool.not_eq_false']at h)<;>replace hb0:=h)|(((with_reducible refine isCall0 (f:=27) ?_);refine callA0_nil (by kernel_rfl) ?_;refine (sContainsF_ok kv p3 w _ own g1 (by omega) (h3.le m1) (hw.le m1) hb2 (Stop.mk ?_))))|((with_reducible refine isDraw [some 6,some 7,some 8,some 9,some 10,some 11,some 12,some 13,some 5] (by decide) ?_);refine draw_rule [(0,[]),(1,[0]),(2,[]),(3,[]),(4,[0,3]),(6,[0,3,4]),(5,[]),(7,[]),(8,[])] [[],[],[0,1],[0,1,2],[],[0,1,2,3,4],[],[0,1,2,3,4,5,6],[0,1,2,3,4,5,6,7]] [6,7,8,9,10,11,12] [] (by kernel_rfl) (by kernel_rfl) (by kernel_rfl) (by kernel_rfl) (by exact trivial) ?_)|(refine And.intro ?_ ?_;(try simp only[sxO]at *);omega)|fail)<;>(try simp (maxSteps:=1000000) only [hb0,vo,wo,ko,a3,b3,c3,so,bs_mk,bs_app,bs_ext,bs_size,bs_toList,bs_at,bs_cells,List.take_length,imp_ga,guard_pk,guard_pk2,↓hold_pre,awayP,runOps,regK,step1,newK,genR,appR,obl,buildR,Value.cells,closeK,keepH,outV,retK,ret1,retC,RetV,Option.getD,runD,stepD,afterK,undef,simprocAttr,sxB,↓sxD,sxE,sxTab]))
 refine Stop.go ?_
 (replace hb0:=true_and True);refine Go1.mk ?_;repeat' ((first|(with_reducible refine Go1.go ?_)|((with_reducible first|refine brv_mk ?_ ?_|refine gsplitD ?_ ?_|refine gsplitG ?_ ?_)<;>intro h<;>(try simp only[Bool.not_eq_true',Bool.not_eq_false']at h)<;>replace hb0:=h)|(refine And.intro ?_ ?_;(try simp only[sxO]at *);omega)|fail)<;>(try simp (maxSteps:=1000000) only [hb0,vo,wo,ko,a3,b3,c3,so,bs_mk,bs_app,bs_ext,bs_size,bs_toList,bs_at,bs_cells,List.take_length,imp_ga,guard_pk,guard_pk2,↓hold_pre,awayP,runOps,regK,step1,newK,genR,appR,obl,buildR,Value.cells,closeK,keepH,outV,retK,ret1,retC,RetV,Option.getD,runD,stepD,afterK,undef,simprocAttr,sxB,↓sxD,sxE,sxTab]))
 exact hK M1 m1
end
section
variable {M:Mem}{K:AV→Hp→Mem→Prop}
def eqiSt(M:Mem)(u1 u2:Value)(n i:Nat):St:={env:=[(13,.ext (.int .i64 (i:Int))),(12,.ext (.int .i64 (n:Int))),(1,.ext u2),(0,.ext u1)],hp:=[],M:=M,kb:=0,fx:=[]}
theorem equalI_ok(u1 u2:Value)(l1 l2:List Int)(h1:IsL M intV64 u1 l1)(h2:IsL M intV64 u2 l2)(hb:l1.length<1000000000)(hb2:l2.length<1000000000)(hK:K (.ext (.bool (decide (l1=l2)))) [] M):CallS Tryz.prog 41 [.ext u1,.ext u2] [] M [] K:=by
 refine inlS (cs:=[]) Tryz.mixed Tryz.func41 rfl (by kernel_rfl) 0 rfl rfl ?_
 simp only[Tryz.f41]
 by_cases hl:l1.length=l2.length
 ·have hl2:decide ((l1.length:Int)=(l2.length:Int))=true:=by simp[hl]
  (replace hb0:=true_and True);refine Go1.mk ?_;repeat' ((first|(with_reducible refine Go1.go ?_)|((with_reducible first|refine brv_mk ?_ ?_|refine gsplitD ?_ ?_|refine gsplitG ?_ ?_)<;>intro h<;>(try simp only[Bool.not_eq_true',Bool.not_eq_false']at h)<;>replace hb0:=h)|((with_reducible refine isDraw [some 16,some 17,some 18,some 19,some 20,some 21,some 22,some 23,some 24] (by decide) ?_);refine draw_rule [(0,[]),(1,[]),(2,[]),(3,[]),(4,[3]),(5,[3]),(6,[3]),(7,[3]),(8,[])] [[],[],[0,1],[0,1,2],[],[],[4,5],[4,5,6],[0,1,2,3,4,5,6,7]] [16,17,18,19,20,21,22,23] [] (by kernel_rfl) (by kernel_rfl) (by kernel_rfl) (by kernel_rfl) (by exact trivial) ?_)|(refine And.intro ?_ ?_;(try simp only[sxO]at *);omega)|fail)<;>(try simp (maxSteps:=1000000) only [hb0,h1.len,h1.sl,h2.len,h2.sl,hl2,↓hold_pre,awayP,runOps,regK,step1,newK,genR,appR,obl,buildR,Value.cells,closeK,keepH,outV,retK,ret1,retC,RetV,Option.getD,runD,stepD,afterK,undef,simprocAttr,sxB,↓sxD,sxE,sxTab]))
  refine ⟨fun m z=>∃i,i≤l1.length∧l1.take i=l2.take i∧m=l1.length-i∧z=eqiSt M u1 u2 l1.length i,⟨l1.length,eqiSt M u1 u2 l1.length 0,le_sub ⟨rfl,rfl,rfl,rfl,trivial⟩ trivial rfl rfl rfl (keepLt0 _),⟨0,by omega,rfl,rfl,rfl⟩⟩,?_⟩
  rintro m z ⟨i,hi,hpre,rfl,rfl⟩
  by_cases hlt:i<l1.length
  ·have hlt2:i<l2.length:=by omega
   have f1:=h1.idx (P:=Tryz.prog) (T:=3) tk3 tz3 (by omega) hlt
   have f2:=h2.idx (P:=Tryz.prog) (T:=3) tk3 tz3 (by omega) hlt2
   by_cases he:l1[i]=l2[i]
   ·have d1:decide (l1[i]=l2[i])=true:=decide_eq_true he
    (replace hb0:=true_and True);refine Go1.mk ?_;repeat' ((first|(with_reducible refine Go1.go ?_)|((with_reducible first|refine brv_mk ?_ ?_|refine gsplitD ?_ ?_|refine gsplitG ?_ ?_)<;>intro h<;>(try simp only[Bool.not_eq_true',Bool.not_eq_false']at h)<;>replace hb0:=h)|((with_reducible refine isDraw [some 16,some 17,some 18,some 19,some 20,some 21,some 22,some 23,some 24] (by decide) ?_);refine draw_rule [(0,[]),(1,[]),(2,[]),(3,[]),(4,[3]),(5,[3]),(6,[3]),(7,[3]),(8,[])] [[],[],[0,1],[0,1,2],[],[],[4,5],[4,5,6],[0,1,2,3,4,5,6,7]] [16,17,18,19,20,21,22,23] [] (by kernel_rfl) (by kernel_rfl) (by kernel_rfl) (by kernel_rfl) (by exact trivial) ?_)|(refine And.intro ?_ ?_;(try simp only[sxO]at *);omega)|fail)<;>(try simp (maxSteps:=1000000) only [hb0,f1,f2,intV64,d1,eqiSt,↓hold_pre,awayP,runOps,regK,step1,newK,genR,appR,obl,buildR,Value.cells,closeK,keepH,outV,retK,ret1,retC,RetV,Option.getD,runD,stepD,afterK,undef,simprocAttr,sxB,↓sxD,sxE,sxTab]))
    refine ⟨l1.length-(i+1),eqiSt M u1 u2 l1.length (i+1),by omega,le_sub ⟨rfl,rfl,rfl,rfl,trivial⟩ trivial rfl rfl rfl (keepLt0 _),i+1,by omega,?_,rfl,rfl⟩
    rw[List.take_succ_eq_append_getElem hlt,List.take_succ_eq_append_getElem hlt2,hpre,he]
   ·have d1:decide (l1[i]=l2[i])=false:=decide_eq_false he
    have e:decide (l1=l2)=false:=by
     simp only[decide_eq_false_iff_not]
     intro e;subst e;exact he rfl
    rw[e]at hK
    (replace hb0:=true_and True);refine Go1.mk ?_;repeat' ((first|(with_reducible refine Go1.go ?_)|((with_reducible first|refine brv_mk ?_ ?_|refine gsplitD ?_ ?_|refine gsplitG ?_ ?_)<;>intro h<;>(try simp only[Bool.not_eq_true',Bool.not_eq_false']at h)<;>replace hb0:=h)|((with_reducible refine isDraw [some 16,some 17,some 18,some 19,some 20,some 21,some 22,some 23,some 24] (by decide) ?_);refine draw_rule [(0,[]),(1,[]),(2,[]),(3,[]),(4,[3]),(5,[3]),(6,[3]),(7,[3]),(8,[])] [[],[],[0,1],[0,1,2],[],[],[4,5],[4,5,6],[0,1,2,3,4,5,6,7]] [16,17,18,19,20,21,22,23] [] (by kernel_rfl) (by kernel_rfl) (by kernel_rfl) (by kernel_rfl) (by exact trivial) ?_)|(refine And.intro ?_ ?_;(try simp only[sxO]at *);omega)|fail)<;>(try simp (maxSteps:=1000000) only [hb0,f1,f2,intV64,d1,eqiSt,↓hold_pre,awayP,runOps,regK,step1,newK,genR,appR,obl,buildR,Value.cells,closeK,keepH,outV,retK,ret1,retC,RetV,Option.getD,runD,stepD,afterK,undef,simprocAttr,sxB,↓sxD,sxE,sxTab]))
    exact hK
  ·have f1:=h1.fin hlt
   have ei:i=l1.length:=by omega
   subst ei
   rw[List.take_length,hl,List.take_length]at hpre
   have e:decide (l1=l2)=true:=by simp[hpre]
   rw[e]at hK
   (replace hb0:=true_and True);refine Go1.mk ?_;repeat' ((first|(with_reducible refine Go1.go ?_)|((with_reducible first|refine brv_mk ?_ ?_|refine gsplitD ?_ ?_|refine gsplitG ?_ ?_)<;>intro h<;>(try simp only[Bool.not_eq_true',Bool.not_eq_false']at h)<;>replace hb0:=h)|((with_reducible refine isDraw [some 16,some 17,some 18,some 19,some 20,some 21,some 22,some 23,some 24] (by decide) ?_);refine draw_rule [(0,[]),(1,[]),(2,[]),(3,[]),(4,[3]),(5,[3]),(6,[3]),(7,[3]),(8,[])] [[],[],[0,1],[0,1,2],[],[],[4,5],[4,5,6],[0,1,2,3,4,5,6,7]] [16,17,18,19,20,21,22,23] [] (by kernel_rfl) (by kernel_rfl) (by kernel_rfl) (by kernel_rfl) (by exact trivial) ?_)|(refine And.intro ?_ ?_;(try simp only[sxO]at *);omega)|fail)<;>(try simp (maxSteps:=1000000) only [hb0,f1,eqiSt,↓hold_pre,awayP,runOps,regK,step1,newK,genR,appR,obl,buildR,Value.cells,closeK,keepH,outV,retK,ret1,retC,RetV,Option.getD,runD,stepD,afterK,undef,simprocAttr,sxB,↓sxD,sxE,sxTab]))
   exact hK
 ·have hl2:decide ((l1.length:Int)=(l2.length:Int))=false:=by simp;omega
  have e:decide (l1=l2)=false:=by
   simp only[decide_eq_false_iff_not]
   intro e;subst e;exact hl rfl
  rw[e]at hK
  (replace hb0:=true_and True);refine Go1.mk ?_;repeat' ((first|(with_reducible refine Go1.go ?_)|((with_reducible first|refine brv_mk ?_ ?_|refine gsplitD ?_ ?_|refine gsplitG ?_ ?_)<;>intro h<;>(try simp only[Bool.not_eq_true',Bool.not_eq_false']at h)<;>replace hb0:=h)|((with_reducible refine isDraw [some 16,some 17,some 18,some 19,some 20,some 21,some 22,some 23,some 24] (by decide) ?_);refine draw_rule [(0,[]),(1,[]),(2,[]),(3,[]),(4,[3]),(5,[3]),(6,[3]),(7,[3]),(8,[])] [[],[],[0,1],[0,1,2],[],[],[4,5],[4,5,6],[0,1,2,3,4,5,6,7]] [16,17,18,19,20,21,22,23] [] (by kernel_rfl) (by kernel_rfl) (by kernel_rfl) (by kernel_rfl) (by exact trivial) ?_)|(refine And.intro ?_ ?_;(try simp only[sxO]at *);omega)|fail)<;>(try simp (maxSteps:=1000000) only [hb0,h1.len,h1.sl,h2.len,h2.sl,hl2,↓hold_pre,awayP,runOps,regK,step1,newK,genR,appR,obl,buildR,Value.cells,closeK,keepH,outV,retK,ret1,retC,RetV,Option.getD,runD,stepD,afterK,undef,simprocAttr,sxB,↓sxD,sxE,sxTab]))
  exact hK
structure FdM (M:Mem) (p1 p2 p3:Value) (S:List SG) (T:List (Bst×List Bst)) (d:Int) (own:List Bst):Prop where
 ex:∃v w,PtM M 58 p1 v∧PtM M 3 p2 (.int .i64 d)∧PtM M 39 p3 w∧IsR M 2 SG.c v S∧(∀s∈S,okSG M s)∧IsL M sbV w own
 hT:S.map SG.t=T
 ok:∀s∈T,okB s.1 s.2
 hl:S.length<1000000
 hb:own.length<1000000000
theorem FdM.le{M M':Mem}{p1 p2 p3:Value}{S:List SG}{T:List (Bst×List Bst)}{d:Int}{own:List Bst}(h:FdM M p1 p2 p3 S T d own)(hM:Mem.le M M'):FdM M' p1 p2 p3 S T d own:=by
 obtain ⟨v,w,h1,h2,h3,h4,h5,h6⟩:=h.ex
 exact ⟨⟨v,w,h1.le hM,h2.le hM,h3.le hM,SlM.le h4 hM,fun s hs=>(h5 s hs).le hM,h6.le hM⟩,h.hT,h.ok,h.hl,h.hb⟩
theorem FdM.one{p1 p2 p3:Value}{S:List SG}{T:List (Bst×List Bst)}{d:Int}{own:List Bst}(h:FdM M p1 p2 p3 S T d own):p1.oneCell'=true∧p2.oneCell'=true∧p3.oneCell'=true:=by
 obtain ⟨v,w,h1,h2,h3,_⟩:=h.ex
 exact ⟨h1.one,h2.one,h3.one⟩
theorem fmemM_ok(p1 p2 p3:Value)(S:List SG)(T:List (Bst×List Bst))(d:Int)(own:List Bst)(m:Nat)(h:FdM M p1 p2 p3 S T d own)(hm:m<S.length)(hK:∀M',Mem.le M M'→K (.ext (.bool (mlk T d own m))) [] M'):CallS Tryz.prog 26 [.ext (.int .i64 (m:Int)),.ext p1,.ext p2,.ext p3] [] M [] K:=by
 obtain ⟨v,w,h1,h2,h3,h4,h5,h6⟩:=h.ex
 exact fmem_ok p1 p2 p3 v w S T d own m h1 h2 h3 h4 h5 h.hT h.ok h.hl h6 h.hb hm hK
def nfSt(M:Mem)(u p1 p2 p3:Value)(n i:Nat):St:={env:=[(8,.ext (.int .i64 (i:Int))),(7,.ext (.int .i64 (n:Int))),(1,.fn 26 [.ext p1,.ext p2,.ext p3]),(0,.ext u)],hp:=[],M:=M,kb:=0,fx:=[]}
theorem nIndexF_ok(u p1 p2 p3:Value)(S:List SG)(T:List (Bst×List Bst))(d:Int)(own:List Bst)(l:List Nat)(hu:IsL M natV u l)(hb:l.length<1000000000)(hd:FdM M p1 p2 p3 S T d own)(hm:∀m∈l,m<S.length)(hK:∀(r:Int) M',Mem.le M M'→((r=-1∧l.any (mlk T d own)=false)∨(0≤r∧l.any (mlk T d own)=true))→K (.ext (.int .i64 r)) [] M'):CallS Tryz.prog 45 [.ext u,.fn 26 [.ext p1,.ext p2,.ext p3]] [] M [] K:=by
 refine inlS (cs:=[]) Tryz.mixed Tryz.func45 rfl (by kernel_rfl) 0 rfl rfl ?_
 simp only[Tryz.f45]
 have uo:=hu.one
 have ul:=hu.len
 have us:=hu.sl
 obtain ⟨po1,po2,po3⟩:=hd.one
 (replace hb0:=true_and True);refine Go1.mk ?_;repeat' ((first|(with_reducible refine Go1.go ?_)|((with_reducible first|refine brv_mk ?_ ?_|refine gsplitD ?_ ?_|refine gsplitG ?_ ?_)<;>intro h<;>(try simp only[Bool.not_eq_true',Bool.not_eq_false']at h)<;>replace hb0:=h)|(refine And.intro ?_ ?_;(try simp only[sxO]at *);omega)|fail)<;>(try simp (maxSteps:=1000000) only [hb0,uo,ul,us,po1,po2,po3,↓hold_pre,awayP,runOps,regK,step1,newK,genR,appR,obl,buildR,Value.cells,closeK,keepH,outV,retK,ret1,retC,RetV,Option.getD,runD,stepD,afterK,undef,simprocAttr,sxB,↓sxD,sxE,sxTab]))
 refine ⟨fun m z=>∃i M',Mem.le M M'∧i≤l.length∧(∀y∈l.take i,mlk T d own y=false)∧m=l.length-i∧z=nfSt M' u p1 p2 p3 l.length i,⟨l.length,nfSt M u p1 p2 p3 l.length 0,le_sub ⟨rfl,rfl,rfl,rfl,trivial⟩ trivial rfl rfl rfl (keepLt0 _),⟨0,M,.refl _,by omega,by simp,rfl,rfl⟩⟩,?_⟩
 rintro m z ⟨i,M2,m2,hi,hno,rfl,rfl⟩
 have hu:=hu.le m2
 have hd:=hd.le m2
 by_cases hlt:i<l.length
 case neg=>
  have d1:decide ((i:Int)<(l.length:Int))=false:=by rw[decide_eq_false_iff_not];omega
  obtain rfl:i=l.length:=by omega
  rw[List.take_length]at hno
  have e:l.any (mlk T d own)=false:=by
   rw[List.any_eq_false]
   intro y hy;rw[hno y hy];simp
  (replace hb0:=true_and True);refine Go1.mk ?_;repeat' ((first|(with_reducible refine Go1.go ?_)|((with_reducible first|refine brv_mk ?_ ?_|refine gsplitD ?_ ?_|refine gsplitG ?_ ?_)<;>intro h<;>(try simp only[Bool.not_eq_true',Bool.not_eq_false']at h)<;>replace hb0:=h)|(refine And.intro ?_ ?_;(try simp only[sxO]at *);omega)|fail)<;>(try simp (maxSteps:=1000000) only [hb0,nfSt,d1,↓hold_pre,awayP,runOps,regK,step1,newK,genR,appR,obl,buildR,Value.cells,closeK,keepH,outV,retK,ret1,retC,RetV,Option.getD,runD,stepD,afterK,undef,simprocAttr,sxB,↓sxD,sxE,sxTab]))
  exact hK _ _ m2 (.inl ⟨rfl,e⟩)
 have d1:decide ((i:Int)<(l.length:Int))=true:=by rw[decide_eq_true_eq];omega
 have z2:(0:Int)≤(i:Int):=by omega
 have z3:(i:Int)<(l.length:Int):=by omega
 have n1:=hu.nn hlt
 have q1:=hu.at (P:=Tryz.prog) (T:=3) tk3 tz3 hlt
 have wi:IntKind.i64.wrap ((i:Int)+1)=((i+1:Nat):Int):=by rw[wrap_id (by omega) (by omega)];omega
 have htk:l.take (i+1)=l.take i++[l[i]]:=by rw[List.take_add_one,List.getElem?_eq_getElem hlt];rfl
 have hli:=List.getElem_mem hlt
 have hmx:=hm _ hli
 generalize l[i]=x at *
 (replace hb0:=true_and True);refine Go1.mk ?_;repeat' ((first|(with_reducible refine Go1.go ?_)|((with_reducible first|refine brv_mk ?_ ?_|refine gsplitD ?_ ?_|refine gsplitG ?_ ?_)<;>intro h<;>(try simp only[Bool.not_eq_true',Bool.not_eq_false']at h)<;>replace hb0:=h)|(((with_reducible refine isCall (f:=26) ?_);refine callA_nil (by kernel_rfl) ?_;refine (fmemM_ok p1 p2 p3 S T d own x hd hmx (fun M3 m3=>Stop.mk ?_))))|(refine And.intro ?_ ?_;(try simp only[sxO]at *);omega)|fail)<;>(try simp (maxSteps:=1000000) only [hb0,nfSt,natV,d1,z2,z3,n1,q1,uo,ul,us,po1,po2,po3,↓hold_pre,awayP,runOps,regK,step1,newK,genR,appR,obl,buildR,Value.cells,closeK,keepH,outV,retK,ret1,retC,RetV,Option.getD,runD,stepD,afterK,undef,simprocAttr,sxB,↓sxD,sxE,sxTab]))
 have m3:Mem.le M2 M3:=m3
 cases hx:mlk T d own x with
 | true=>
  have e:l.any (mlk T d own)=true:=by
   rw[List.any_eq_true]
   exact ⟨x,hli,hx⟩
  refine Stop.go ?_
  (replace hb0:=true_and True);refine Go1.mk ?_;repeat' ((first|(with_reducible refine Go1.go ?_)|((with_reducible first|refine brv_mk ?_ ?_|refine gsplitD ?_ ?_|refine gsplitG ?_ ?_)<;>intro h<;>(try simp only[Bool.not_eq_true',Bool.not_eq_false']at h)<;>replace hb0:=h)|(refine And.intro ?_ ?_;(try simp only[sxO]at *);omega)|fail)<;>(try simp (maxSteps:=1000000) only [hb0,hx,uo,ul,us,po1,po2,po3,↓hold_pre,awayP,runOps,regK,step1,newK,genR,appR,obl,buildR,Value.cells,closeK,keepH,outV,retK,ret1,retC,RetV,Option.getD,runD,stepD,afterK,undef,simprocAttr,sxB,↓sxD,sxE,sxTab]))
  exact hK _ _ (m2.trans m3) (.inr ⟨z2,e⟩)
 | false=>
  refine Stop.go ?_
  (replace hb0:=true_and True);refine Go1.mk ?_;repeat' ((first|(with_reducible refine Go1.go ?_)|((with_reducible first|refine brv_mk ?_ ?_|refine gsplitD ?_ ?_|refine gsplitG ?_ ?_)<;>intro h<;>(try simp only[Bool.not_eq_true',Bool.not_eq_false']at h)<;>replace hb0:=h)|(refine And.intro ?_ ?_;(try simp only[sxO]at *);omega)|fail)<;>(try simp (maxSteps:=1000000) only [hb0,hx,wi,uo,ul,us,po1,po2,po3,↓hold_pre,awayP,runOps,regK,step1,newK,genR,appR,obl,buildR,Value.cells,closeK,keepH,outV,retK,ret1,retC,RetV,Option.getD,runD,stepD,afterK,undef,simprocAttr,sxB,↓sxD,sxE,sxTab]))
  refine ⟨l.length-(i+1),nfSt M3 u p1 p2 p3 l.length (i+1),by omega,le_sub ⟨rfl,rfl,rfl,rfl,trivial⟩ trivial rfl rfl rfl (keepLt0 _),i+1,M3,m2.trans m3,by omega,?_,rfl,rfl⟩
  rw[htk]
  intro y hy
  rcases List.mem_append.1 hy with hy|hy
  ·exact hno y hy
  ·rw[List.mem_singleton.1 hy];exact hx
theorem nContainsF_ok(u p1 p2 p3:Value)(S:List SG)(T:List (Bst×List Bst))(d:Int)(own:List Bst)(l:List Nat)(hu:IsL M natV u l)(hb:l.length<1000000000)(hd:FdM M p1 p2 p3 S T d own)(hm:∀m∈l,m<S.length)(hK:∀M',Mem.le M M'→K (.ext (.bool (l.any (mlk T d own)))) [] M'):CallS Tryz.prog 25 [.ext u,.fn 26 [.ext p1,.ext p2,.ext p3]] [] M [] K:=by
 refine inlS (cs:=[]) Tryz.mixed Tryz.func25 rfl (by kernel_rfl) 0 rfl rfl ?_
 simp only[Tryz.f25]
 have uo:=hu.one
 obtain ⟨po1,po2,po3⟩:=hd.one
 (replace hb0:=true_and True);refine Go1.mk ?_;repeat' ((first|(with_reducible refine Go1.go ?_)|((with_reducible first|refine brv_mk ?_ ?_|refine gsplitD ?_ ?_|refine gsplitG ?_ ?_)<;>intro h<;>(try simp only[Bool.not_eq_true',Bool.not_eq_false']at h)<;>replace hb0:=h)|(((with_reducible refine isCall (f:=45) ?_);refine callA_nil (by kernel_rfl) ?_;refine (nIndexF_ok u p1 p2 p3 S T d own l hu hb hd hm (fun r M2 m2 hr=>Stop.mk ?_))))|(refine And.intro ?_ ?_;(try simp only[sxO]at *);omega)|fail)<;>(try simp (maxSteps:=1000000) only [hb0,uo,po1,po2,po3,↓hold_pre,awayP,runOps,regK,step1,newK,genR,appR,obl,buildR,Value.cells,closeK,keepH,outV,retK,ret1,retC,RetV,Option.getD,runD,stepD,afterK,undef,simprocAttr,sxB,↓sxD,sxE,sxTab]))
 have m2:Mem.le M M2:=m2
 rcases hr with ⟨rfl,e⟩|⟨h0,e⟩
 ·rw[e]at hK
  refine Stop.go ?_
  (replace hb0:=true_and True);refine Go1.mk ?_;repeat' ((first|(with_reducible refine Go1.go ?_)|((with_reducible first|refine brv_mk ?_ ?_|refine gsplitD ?_ ?_|refine gsplitG ?_ ?_)<;>intro h<;>(try simp only[Bool.not_eq_true',Bool.not_eq_false']at h)<;>replace hb0:=h)|(refine And.intro ?_ ?_;(try simp only[sxO]at *);omega)|fail)<;>(try simp (maxSteps:=1000000) only [hb0,uo,po1,po2,po3,ge_iff_le,↓hold_pre,awayP,runOps,regK,step1,newK,genR,appR,obl,buildR,Value.cells,closeK,keepH,outV,retK,ret1,retC,RetV,Option.getD,runD,stepD,afterK,undef,simprocAttr,sxB,↓sxD,sxE,sxTab]))
  exact hK _ m2
 ·have d1:decide ((0:Int)≤r)=true:=decide_eq_true h0
  rw[e]at hK
  refine Stop.go ?_
  (replace hb0:=true_and True);refine Go1.mk ?_;repeat' ((first|(with_reducible refine Go1.go ?_)|((with_reducible first|refine brv_mk ?_ ?_|refine gsplitD ?_ ?_|refine gsplitG ?_ ?_)<;>intro h<;>(try simp only[Bool.not_eq_true',Bool.not_eq_false']at h)<;>replace hb0:=h)|(refine And.intro ?_ ?_;(try simp only[sxO]at *);omega)|fail)<;>(try simp (maxSteps:=1000000) only [hb0,uo,po1,po2,po3,d1,ge_iff_le,↓hold_pre,awayP,runOps,regK,step1,newK,genR,appR,obl,buildR,Value.cells,closeK,keepH,outV,retK,ret1,retC,RetV,Option.getD,runD,stepD,afterK,undef,simprocAttr,sxB,↓sxD,sxE,sxTab]))
  exact hK _ m2
theorem gone_ok(m1 m2:Bst)(x1 x2 t1 t2:Value)(C1 C2:List Bst)(j1 j2:List Nat)(c1:IsL M sbV x1 C1)(c2:IsL M natV t1 j1)(c3:IsL M sbV x2 C2)(c4:IsL M natV t2 j2)(k2:j1.length≤64)(k3:C1.length<1000000)(k5:j2.length≤64)(k6:C2.length<1000000)(hK:K (.ext (.bool (decide (((m1,C1),j1)=((m2,C2),j2))))) [] M):CallS Tryz.prog 40 [.ext (.agg #[.string (bs m1),x1,t1]),.ext (.agg #[.string (bs m2),x2,t2])] [] M [] K:=by
 refine inlS (cs:=[]) Tryz.mixed Tryz.func40 rfl (by kernel_rfl) 0 rfl rfl ?_
 simp only[Tryz.f40]
 have co1:=c1.one
 have co2:=c2.one
 have co3:=c3.one
 have co4:=c4.one
 have hz:=cmp_G.zero (m1,C1) (m2,C2)
 have hij:(j1.map fun (x:Nat)=>(x:Int))=(j2.map fun (x:Nat)=>(x:Int))↔j1=j2:=⟨fun h=>List.map_inj_right (fun a b e=>Int.ofNat.inj e) |>.1 h,fun h=>by rw[h]⟩
 by_cases hc0:cmpG (m1,C1) (m2,C2)=0
 case neg=>
  have d2:decide (cmpG (m1,C1) (m2,C2)=0)=false:=decide_eq_false hc0
  have e:decide (((m1,C1),j1)=((m2,C2),j2))=false:=decide_eq_false fun e=>hc0 (hz.2 (congrArg Prod.fst e))
  rw[e]at hK
  (replace hb0:=true_and True);refine Go1.mk ?_;repeat' ((first|(with_reducible refine Go1.go ?_)|((with_reducible first|refine brv_mk ?_ ?_|refine gsplitD ?_ ?_|refine gsplitG ?_ ?_)<;>intro h<;>(try simp only[Bool.not_eq_true',Bool.not_eq_false']at h)<;>replace hb0:=h)|(((with_reducible refine isCall (f:=21) ?_);refine callA_nil (by kernel_rfl) ?_;refine (compare_ok m1 m2 x1 x2 C1 C2 c1 c3 (Nat.lt_trans k3 (by decide)) (Nat.lt_trans k6 (by decide)) ?_)))|(refine And.intro ?_ ?_;(try simp only[sxO]at *);omega)|fail)<;>(try simp (maxSteps:=1000000) only [hb0,d2,co1,co2,co3,co4,hasK_nil,bs_mk,bs_app,bs_ext,bs_size,bs_toList,bs_at,bs_cells,List.take_length,imp_ga,guard_pk,guard_pk2,↓hold_pre,awayP,runOps,regK,step1,newK,genR,appR,obl,buildR,Value.cells,closeK,keepH,outV,retK,ret1,retC,RetV,Option.getD,runD,stepD,afterK,undef,simprocAttr,sxB,↓sxD,sxE,sxTab]))
  exact hK
 have d2:decide (cmpG (m1,C1) (m2,C2)=0)=true:=decide_eq_true hc0
 have e:decide (((m1,C1),j1)=((m2,C2),j2))=decide ((j1.map fun (x:Nat)=>(x:Int))=(j2.map fun (x:Nat)=>(x:Int))):=by
  rw[decide_eq_decide,hij]
  exact ⟨fun h=>congrArg Prod.snd h,fun h=>Prod.ext (hz.1 hc0) h⟩
 rw[e]at hK
 (replace hb0:=true_and True);refine Go1.mk ?_;repeat' ((first|(with_reducible refine Go1.go ?_)|((with_reducible first|refine brv_mk ?_ ?_|refine gsplitD ?_ ?_|refine gsplitG ?_ ?_)<;>intro h<;>(try simp only[Bool.not_eq_true',Bool.not_eq_false']at h)<;>replace hb0:=h)|(((with_reducible refine isCall (f:=21) ?_);refine callA_nil (by kernel_rfl) ?_;refine (compare_ok m1 m2 x1 x2 C1 C2 c1 c3 (Nat.lt_trans k3 (by decide)) (Nat.lt_trans k6 (by decide)) ?_)))|(((with_reducible refine isCall (f:=41) ?_);refine callA_nil (by kernel_rfl) ?_;refine (equalI_ok t1 t2 _ _ c2.nat c4.nat (by rw[List.length_map];exact Nat.lt_of_le_of_lt k2 (by decide)) (by rw[List.length_map];exact Nat.lt_of_le_of_lt k5 (by decide)) ?_)))|(refine And.intro ?_ ?_;(try simp only[sxO]at *);omega)|fail)<;>(try simp (maxSteps:=1000000) only [hb0,d2,co1,co2,co3,co4,hasK_nil,bs_mk,bs_app,bs_ext,bs_size,bs_toList,bs_at,bs_cells,List.take_length,imp_ga,guard_pk,guard_pk2,↓hold_pre,awayP,runOps,regK,step1,newK,genR,appR,obl,buildR,Value.cells,closeK,keepH,outV,retK,ret1,retC,RetV,Option.getD,runD,stepD,afterK,undef,simprocAttr,sxB,↓sxD,sxE,sxTab]))
 exact hK
def egSt(M:Mem)(u1 u2:Value)(n i:Nat):St:={env:=[(17,.ext (.int .i64 (i:Int))),(16,.ext (.int .i64 (n:Int))),(15,.ext u1),(2,.fn 40 []),(1,.ext u2)],hp:=[],M:=M,kb:=0,fx:=[]}
theorem equalG_ok(u1 u2:Value)(O1 O2:List GO)(hu1:GRV M u1 O1)(hu2:GRV M u2 O2)(hO1:okO O1)(hO2:okO O2)(hK:K (.ext (.bool (decide (O1=O2)))) [] M):CallS Tryz.prog 39 [.ext u1,.ext u2,.fn 40 []] [] M [] K:=by
 obtain ⟨L1,a1,a2,a3⟩:=hu1
 obtain ⟨L2,b1,b2,b3⟩:=hu2
 refine inlS (cs:=[]) Tryz.mixed Tryz.func39 rfl (by kernel_rfl) 0 rfl rfl ?_
 simp only[Tryz.f39]
 have o1:=a1.one
 have l1:=a1.len
 have s1:=a1.sl
 have o2:=b1.one
 have l2:=b1.len
 have s2:=b1.sl
 have e1:O1.length=L1.length:=by rw[←a3];simp
 have e2:O2.length=L2.length:=by rw[←b3];simp
 have hn1:=hO1.len
 have hn2:=hO2.len
 by_cases hl:L1.length=L2.length
 case neg=>
  have d1:decide ((L1.length:Int)=(L2.length:Int))=false:=by rw[decide_eq_false_iff_not];omega
  have e:decide (O1=O2)=false:=by
   rw[decide_eq_false_iff_not];intro e;rw[e]at e1;omega
  rw[e]at hK
  (replace hb0:=true_and True);refine Go1.mk ?_;repeat' ((first|(with_reducible refine Go1.go ?_)|((with_reducible first|refine brv_mk ?_ ?_|refine gsplitD ?_ ?_|refine gsplitG ?_ ?_)<;>intro h<;>(try simp only[Bool.not_eq_true',Bool.not_eq_false']at h)<;>replace hb0:=h)|(refine And.intro ?_ ?_;(try simp only[sxO]at *);omega)|fail)<;>(try simp (maxSteps:=1000000) only [hb0,o1,o2,l1,l2,s1,s2,d1,↓hold_pre,awayP,runOps,regK,step1,newK,genR,appR,obl,buildR,Value.cells,closeK,keepH,outV,retK,ret1,retC,RetV,Option.getD,runD,stepD,afterK,undef,simprocAttr,sxB,↓sxD,sxE,sxTab]))
  exact hK
 have d1:decide ((L1.length:Int)=(L2.length:Int))=true:=by rw[decide_eq_true_eq];omega
 (replace hb0:=true_and True);refine Go1.mk ?_;repeat' ((first|(with_reducible refine Go1.go ?_)|((with_reducible first|refine brv_mk ?_ ?_|refine gsplitD ?_ ?_|refine gsplitG ?_ ?_)<;>intro h<;>(try simp only[Bool.not_eq_true',Bool.not_eq_false']at h)<;>replace hb0:=h)|(refine And.intro ?_ ?_;(try simp only[sxO]at *);omega)|fail)<;>(try simp (maxSteps:=1000000) only [hb0,o1,o2,l1,l2,s1,s2,d1,↓hold_pre,awayP,runOps,regK,step1,newK,genR,appR,obl,buildR,Value.cells,closeK,keepH,outV,retK,ret1,retC,RetV,Option.getD,runD,stepD,afterK,undef,simprocAttr,sxB,↓sxD,sxE,sxTab]))
 refine ⟨fun m z=>∃i,i≤L1.length∧O1.take i=O2.take i∧m=L1.length-i∧z=egSt M u1 u2 L1.length i,⟨L1.length,egSt M u1 u2 L1.length 0,le_sub ⟨rfl,rfl,rfl,rfl,rfl,trivial⟩ trivial rfl rfl rfl (keepLt0 _),⟨0,by omega,rfl,rfl,rfl⟩⟩,?_⟩
 rintro m z ⟨i,hi,hpre,rfl,rfl⟩
 by_cases hlt:i<L1.length
 case neg=>
  have y1:decide ((i:Int)<(L1.length:Int))=false:=by rw[decide_eq_false_iff_not];omega
  have e:decide (O1=O2)=true:=by
   rw[decide_eq_true_eq,←List.take_of_length_le (l:=O1) (i:=i) (by omega),hpre,List.take_of_length_le (by omega)]
  rw[e]at hK
  (replace hb0:=true_and True);refine Go1.mk ?_;repeat' ((first|(with_reducible refine Go1.go ?_)|((with_reducible first|refine brv_mk ?_ ?_|refine gsplitD ?_ ?_|refine gsplitG ?_ ?_)<;>intro h<;>(try simp only[Bool.not_eq_true',Bool.not_eq_false']at h)<;>replace hb0:=h)|(refine And.intro ?_ ?_;(try simp only[sxO]at *);omega)|fail)<;>(try simp (maxSteps:=1000000) only [hb0,egSt,y1,o1,o2,l1,l2,s1,s2,↓hold_pre,awayP,runOps,regK,step1,newK,genR,appR,obl,buildR,Value.cells,closeK,keepH,outV,retK,ret1,retC,RetV,Option.getD,runD,stepD,afterK,undef,simprocAttr,sxB,↓sxD,sxE,sxTab]))
  exact hK
 have hlt2:i<L2.length:=by omega
 have y1:decide ((i:Int)<(L1.length:Int))=true:=by rw[decide_eq_true_eq];omega
 have y2:(0:Int)≤(i:Int):=by omega
 have y3:(i:Int)<(L1.length:Int):=by omega
 have y4:(i:Int)<(L2.length:Int):=by omega
 have wi:IntKind.i64.wrap ((i:Int)+1)=((i+1:Nat):Int):=by rw[wrap_id (by omega) (by omega)];omega
 have n1:=a1.nn hlt
 have n2:=b1.nn hlt2
 have v1:lookM Tryz.prog 43 M (elemP u1 3 i)=some (.agg (GX.c L1[i]).toArray):=a1.at (P:=Tryz.prog) (T:=43) (fun _=>rfl) tk43 tz43 hlt
 have v2:lookM Tryz.prog 43 M (elemP u2 3 i)=some (.agg (GX.c L2[i]).toArray):=b1.at (P:=Tryz.prog) (T:=43) (fun _=>rfl) tk43 tz43 hlt2
 obtain ⟨c1,c2⟩:=a2 _ (List.getElem_mem hlt)
 obtain ⟨c3,c4⟩:=b2 _ (List.getElem_mem hlt2)
 have co1:=c1.one
 have co2:=c2.one
 have co3:=c3.one
 have co4:=c4.one
 have f1:O1[i]'(by omega)=L1[i].o:=by simp only[←a3,List.getElem_map]
 have f2:O2[i]'(by omega)=L2[i].o:=by simp only[←b3,List.getElem_map]
 obtain ⟨k1,k2,k3⟩:=hO1.at_ _ (List.getElem_mem (show i<O1.length by omega))
 obtain ⟨k4,k5,k6⟩:=hO2.at_ _ (List.getElem_mem (show i<O2.length by omega))
 rw[f1]at k1 k2 k3
 rw[f2]at k4 k5 k6
 have k2:L1[i].l.length≤64:=k2
 have k3:L1[i].C.length<1000000:=k3
 have k5:L2[i].l.length≤64:=k5
 have k6:L2[i].C.length<1000000:=k6
 have hstep:O1.take (i+1)=O2.take (i+1)↔L1[i].o=L2[i].o:=by
  rw[List.take_succ_eq_append_getElem (by omega),List.take_succ_eq_append_getElem (by omega),hpre,f1,f2]
  simp
 have hneq:L1[i].o≠L2[i].o→decide (O1=O2)=false:=fun hne=>by
  rw[decide_eq_false_iff_not]
  intro e
  exact hne (hstep.1 (by rw[e]))
 clear f1 f2 k1 k4
 generalize L1[i]=g1 at *
 generalize L2[i]=g2 at *
 obtain ⟨m1,x1,C1,t1,j1⟩:=g1
 obtain ⟨m2,x2,C2,t2,j2⟩:=g2
 have v1:lookM Tryz.prog 43 M (elemP u1 3 i)=some (.agg #[.string (bs m1),x1,t1]):=v1
 have v2:lookM Tryz.prog 43 M (elemP u2 3 i)=some (.agg #[.string (bs m2),x2,t2]):=v2
 by_cases hj:(((m1,C1),j1):GO)=((m2,C2),j2)
 case neg=>
  have d3:decide (((m1,C1),j1)=((m2,C2),j2))=false:=decide_eq_false hj
  rw[hneq hj]at hK
  (replace hb0:=true_and True);refine Go1.mk ?_;repeat' ((first|(with_reducible refine Go1.go ?_)|((with_reducible first|refine brv_mk ?_ ?_|refine gsplitD ?_ ?_|refine gsplitG ?_ ?_)<;>intro h<;>(try simp only[Bool.not_eq_true',Bool.not_eq_false']at h)<;>replace hb0:=h)|(((with_reducible refine isCall (f:=40) ?_);refine callA_nil (by kernel_rfl) ?_;refine (gone_ok m1 m2 x1 x2 t1 t2 C1 C2 j1 j2 c1 c2 c3 c4 k2 k3 k5 k6 ?_)))|(refine And.intro ?_ ?_;(try simp only[sxO]at *);omega)|fail)<;>(try simp (maxSteps:=1000000) only [hb0,egSt,d3,y1,y2,y3,y4,n1,n2,v1,v2,co1,co2,co3,co4,o1,o2,l1,l2,s1,s2,bs_mk,bs_app,bs_ext,bs_size,bs_toList,bs_at,bs_cells,List.take_length,imp_ga,guard_pk,guard_pk2,↓hold_pre,awayP,runOps,regK,step1,newK,genR,appR,obl,buildR,Value.cells,closeK,keepH,outV,retK,ret1,retC,RetV,Option.getD,runD,stepD,afterK,undef,simprocAttr,sxB,↓sxD,sxE,sxTab]))
  exact hK
 have d3:decide (((m1,C1),j1)=((m2,C2),j2))=true:=decide_eq_true hj
 (replace hb0:=true_and True);refine Go1.mk ?_;repeat' ((first|(with_reducible refine Go1.go ?_)|((with_reducible first|refine brv_mk ?_ ?_|refine gsplitD ?_ ?_|refine gsplitG ?_ ?_)<;>intro h<;>(try simp only[Bool.not_eq_true',Bool.not_eq_false']at h)<;>replace hb0:=h)|(((with_reducible refine isCall (f:=40) ?_);refine callA_nil (by kernel_rfl) ?_;refine (gone_ok m1 m2 x1 x2 t1 t2 C1 C2 j1 j2 c1 c2 c3 c4 k2 k3 k5 k6 ?_)))|(refine And.intro ?_ ?_;(try simp only[sxO]at *);omega)|fail)<;>(try simp (maxSteps:=1000000) only [hb0,egSt,d3,wi,y1,y2,y3,y4,n1,n2,v1,v2,co1,co2,co3,co4,o1,o2,l1,l2,s1,s2,bs_mk,bs_app,bs_ext,bs_size,bs_toList,bs_at,bs_cells,List.take_length,imp_ga,guard_pk,guard_pk2,↓hold_pre,awayP,runOps,regK,step1,newK,genR,appR,obl,buildR,Value.cells,closeK,keepH,outV,retK,ret1,retC,RetV,Option.getD,runD,stepD,afterK,undef,simprocAttr,sxB,↓sxD,sxE,sxTab]))
 exact ⟨L1.length-(i+1),egSt M u1 u2 L1.length (i+1),by omega,le_sub ⟨rfl,rfl,rfl,rfl,rfl,trivial⟩ trivial rfl rfl rfl (keepLt0 _),i+1,by omega,hstep.2 hj,rfl,rfl⟩
theorem psame_ok(u1 u2:Value)(O1 O2:List GO)(hu1:GRV M u1 O1)(hu2:GRV M u2 O2)(hO1:okO O1)(hO2:okO O2)(hK:K (.ext (.bool (decide (O1=O2)))) [] M):CallS Tryz.prog 23 [.ext u1,.ext u2] [] M [] K:=by
 refine inlS (cs:=[]) Tryz.mixed Tryz.func23 rfl (by kernel_rfl) 0 rfl rfl ?_
 simp only[Tryz.f23]
 have o1:u1.oneCell'=true:=by obtain ⟨L,h1,_⟩:=hu1;exact h1.one
 have o2:u2.oneCell'=true:=by obtain ⟨L,h1,_⟩:=hu2;exact h1.one
 (replace hb0:=true_and True);refine Go1.mk ?_;repeat' ((first|(with_reducible refine Go1.go ?_)|((with_reducible first|refine brv_mk ?_ ?_|refine gsplitD ?_ ?_|refine gsplitG ?_ ?_)<;>intro h<;>(try simp only[Bool.not_eq_true',Bool.not_eq_false']at h)<;>replace hb0:=h)|(((with_reducible refine isCall (f:=39) ?_);refine callA_nil (by kernel_rfl) ?_;refine (equalG_ok u1 u2 O1 O2 hu1 hu2 hO1 hO2 ?_)))|(refine And.intro ?_ ?_;(try simp only[sxO]at *);omega)|fail)<;>(try simp (maxSteps:=1000000) only [hb0,o1,o2,↓hold_pre,awayP,runOps,regK,step1,newK,genR,appR,obl,buildR,Value.cells,closeK,keepH,outV,retK,ret1,retC,RetV,Option.getD,runD,stepD,afterK,undef,simprocAttr,sxB,↓sxD,sxE,sxTab]))
 exact hK
end
theorem Fz.box{z:St}{B:St→Prop}{k q:Nat}{T:TypeId}(t:Nat)(cs:List Value)(E:Env)(R:Hp)(ht:lk z.env t=.own k 0)(hk:lkH z.hp k=some (T,cs.map .ext))(hn:cs.length=q)(hkb:z.kb≤k)
  (hE:subE E z.env) (hE1:hasK k (mentE E)=false) (hR:subHp R z.hp) (hR1:hasK k (mentH R)=false) (hkeep:keepLt z.kb R z.hp) (hfx:∀k,k<z.kb→(lkH z.hp k).isSome=true→k∈z.fx)
  (h:∀M' U,Mem.le z.M M'→SlM M' q U 1 cs→B {env:=(t,.ext (elemP U q 0)) :: E,hp:=R,M:=M',kb:=z.kb,fx:=z.fx,fr:=z.fr}):Fz z B:=by
 have hlk:∀j x,lkH [(k,T,cs.map AV.ext)] j=some x→j=k∧x=(T,cs.map .ext):=fun j x h=>by
  simp only[lkH]at h
  split at h
  ·rename_i e;cases h;exact ⟨e.symm,rfl⟩
  ·cases h
 have hc:closedH [(k,T,cs.map AV.ext)]:=fun j T' ds q hj hq=>by
  obtain ⟨_,e⟩:=hlk j _ hj
  cases e
  rw[mentL_ext]at hq;cases hq
 have hs:∀j,(lkH [(k,T,cs.map AV.ext)] j).isSome=true→j=k:=fun j hj=>by
  obtain ⟨x,hx⟩:=Option.isSome_iff_exists.1 hj
  exact (hlk j x hx).1
 refine Fz.frz [(k,T,cs.map .ext)] [t] E R hc (fun j x hx=>?_) hE (fun j h1 h2=>?_) hR (fun j h1 h2=>?_) hkeep hfx (fun M' ρ v us hM hh hu=>?_)
 ·obtain ⟨rfl,rfl⟩:=hlk j x hx
  exact ⟨hk,hkb⟩
 ·exact hasK_no.1 hE1 (hs j h1▸h2)
 ·exact hasK_no.1 hR1 (hs j h1▸h2)
 ·have h1:=hu t
  rw[ht]at h1
  obtain ⟨b,hb,he⟩:=h1
  have hl:lkH [(k,T,cs.map AV.ext)] k=some (T,cs.map .ext):=by simp[lkH]
  obtain ⟨⟨arr,_,hrow⟩,_⟩:=hh k T _ b hl hb
  have hbn:=hrow.le
  rw[List.length_map]at hbn
  have h2:=slo_SlMo (ρ:=ρ) (k:=k) (off:=0) (n:=1) (z:=q) (u:=.slice (some ⟨b.b,0,none⟩) 1 1) (cs:=cs) (.inl ⟨b,1,hb,rfl,Nat.le_refl _,by omega⟩) (by omega) (fun b' hb'=>(hh k T _ b' hl hb').1)
  rw[List.drop_zero,List.take_of_length_le (by omega)]at h2
  have e:us t=elemP (.slice (some ⟨b.b,0,none⟩) 1 1) q 0:=by
   rw[he];simp[elemP,ptr,Addr.add]
  have h3:=h M' _ hM h2
  rw[←e]at h3
  exact h3
def fndE(L:List Fa)(d:Int)(O O2:List GO):Int:=if sgnE L d=0 then (if O2=O then 0 else 1) else sgnE L d
def fndR(L:List Fa)(f:Fa)(d:Int)(O2:List GO):List Nat:=finN O2 (mlk (L.map faB) d (keysB (faB f).1 (faB f).2 d)) O2.length
section
variable {M:Mem}{K:AV→Hp→Mem→Prop}
theorem PtM.box{T:TypeId}{U v:Value}(h:SlM M 1 U 1 [v])(hk:kindT Tryz.prog T=some false)(hz:szO Tryz.prog T=some 1):PtM M T (elemP U 1 0) v:=by
 have hp:=h.pt (i:=0) (by decide)
 refine ⟨hp,h.at1 hk hz rfl,?_⟩
 revert hp
 generalize elemP U 1 0=q
 intro hp
 unfold isPt at hp
 split at hp
 ·rfl
 ·cases hp
theorem GRV.one{u:Value}{O:List GO}(h:GRV M u O):u.oneCell'=true:=by obtain ⟨_,h,_⟩:=h;exact h.one
def pfA(M:Mem)(g v kv cu:Value)(d:Int):St:={env:=[(14,.own 14 0),(13,.own 13 0),(7,.own 7 0),(16,.ext (.slice none 0 0)),(0,.ext g)],hp:=[(14,58,[.ext v]),(13,39,[.ext kv]),(7,3,[.ext (.int .i64 d)])],M:=M,kb:=0,fx:=[]}
def pfB(M:Mem)(g p1 p2 p3:Value)(n i:Nat)(X:List Nat):St:={env:=[(54,.ext (.int .i64 (i:Int))),(53,.ext (.int .i64 (n:Int))),(52,.ext g),(16,.slo 66 0 X.length 1),(14,.ext p1),(7,.ext p2),(13,.ext p3)],hp:=[(66,3,cE natV X)],M:=M,kb:=0,fx:=[]}
theorem pfind_ok(g u:Value)(O2:List GO)(L:List Fa)(f:Fa)(d:Int)(hg:GRV M g O2)(hO2:okO O2)(hu:IsR M 5 faC u L)(ho:∀f∈L,faOk M f)(hb:L.length<64)(hf:faOk M f)(hfe:faE f=0)
  (hK1:∀O M',Mem.le M M'→AnsG L d O→fndE L d O O2≠0→K (.ext (.tuple #[.slice none 0 0,.int .i64 (fndE L d O O2)])) [] M')
  (hK2:∀O M' U,Mem.le M M'→AnsG L d O→fndE L d O O2=0→IsL M' natV U (fndR L f d O2)→K (.ext (.tuple #[U,.int .i64 0])) [] M') :
  CallS Tryz.prog 9 [.ext g,.ext u,.ext (faV f.1 f.2.1 f.2.2.1 f.2.2.2.1 f.2.2.2.2.1),.ext (.int .i64 d)] [] M [] K:=by
 refine CallS.frzF ?_
 refine inlS (cs:=[14]) Tryz.mixed Tryz.func9 rfl (by kernel_rfl) 0 rfl rfl ?_
 simp only[Tryz.f9]
 have uo:=hu.one
 have ul:=hu.len
 have us:=hu.sl
 have go:=hg.one
 have so:=hf.1.one
 by_cases he:sgnE L d=0
 case neg=>
  have d1:decide (sgnE L d=0)=false:=decide_eq_false he
  (try with_reducible refine Fz.of ?_);(replace hb0:=true_and True);refine Go1.mk ?_;repeat' ((first|(with_reducible refine Go1.go ?_)|((with_reducible first|refine brv_mk ?_ ?_|refine gsplitD ?_ ?_|refine gsplitG ?_ ?_)<;>intro h<;>(try simp only[Bool.not_eq_true',Bool.not_eq_false']at h)<;>replace hb0:=h)|(((with_reducible refine isCall (f:=7) ?_);refine callA_nil (by kernel_rfl) ?_;refine (psplit_ok u L d hu ho (by omega) (fun u1 M1 O m1 hA hG=>Stop.mk ?_))))|(refine And.intro ?_ ?_;(try simp only[sxO]at *);omega)|fail)<;>(try simp (maxSteps:=1000000) only [hb0,faV,uo,ul,us,go,so,hasK_nil,bs_mk,bs_app,bs_ext,bs_size,bs_toList,bs_at,bs_cells,List.take_length,imp_ga,guard_pk,guard_pk2,↓hold_pre,awayP,runOps,regK,step1,newK,genR,appR,obl,buildR,Value.cells,closeK,keepH,outV,retK,ret1,retC,RetV,Option.getD,runD,stepD,afterK,undef,simprocAttr,sxB,↓sxD,sxE,sxTab]))
  have m1:Mem.le M M1:=m1
  have g1:=hG.one
  have e:fndE L d O O2=sgnE L d:=by unfold fndE;rw[if_neg he]
  have hk:=hK1 O M1 m1 hA (by rw[e];exact he)
  rw[e]at hk
  refine Stop.go ?_
  (try with_reducible refine Fz.of ?_);(replace hb0:=true_and True);refine Go1.mk ?_;repeat' ((first|(with_reducible refine Go1.go ?_)|((with_reducible first|refine brv_mk ?_ ?_|refine gsplitD ?_ ?_|refine gsplitG ?_ ?_)<;>intro h<;>(try simp only[Bool.not_eq_true',Bool.not_eq_false']at h)<;>replace hb0:=h)|(refine And.intro ?_ ?_;(try simp only[sxO]at *);omega)|fail)<;>(try simp (maxSteps:=1000000) only [hb0,d1,uo,ul,us,go,so,g1,hasK_nil,↓hold_pre,awayP,runOps,regK,step1,newK,genR,appR,obl,buildR,Value.cells,closeK,keepH,outV,retK,ret1,retC,RetV,Option.getD,runD,stepD,afterK,undef,simprocAttr,sxB,↓sxD,sxE,sxTab]))
  exact .inl hk
 (try with_reducible refine Fz.of ?_);(replace hb0:=true_and True);refine Go1.mk ?_;repeat' ((first|(with_reducible refine Go1.go ?_)|((with_reducible first|refine brv_mk ?_ ?_|refine gsplitD ?_ ?_|refine gsplitG ?_ ?_)<;>intro h<;>(try simp only[Bool.not_eq_true',Bool.not_eq_false']at h)<;>replace hb0:=h)|(((with_reducible refine isCall (f:=7) ?_);refine callA_nil (by kernel_rfl) ?_;refine (psplit_ok u L d hu ho (by omega) (fun u1 M1 O m1 hA hG=>Stop.mk ?_))))|(refine And.intro ?_ ?_;(try simp only[sxO]at *);omega)|fail)<;>(try simp (maxSteps:=1000000) only [hb0,faV,uo,ul,us,go,so,hasK_nil,bs_mk,bs_app,bs_ext,bs_size,bs_toList,bs_at,bs_cells,List.take_length,imp_ga,guard_pk,guard_pk2,↓hold_pre,awayP,runOps,regK,step1,newK,genR,appR,obl,buildR,Value.cells,closeK,keepH,outV,retK,ret1,retC,RetV,Option.getD,runD,stepD,afterK,undef,simprocAttr,sxB,↓sxD,sxE,sxTab]))
 have m1:Mem.le M M1:=m1
 have g1:=hG.one
 have kO:=hA.good ho
 by_cases hO:O2=O
 case neg=>
  have d2:decide (O2=O)=false:=decide_eq_false hO
  have e:fndE L d O O2=1:=by unfold fndE;rw[if_pos he,if_neg hO]
  have hk:=hK1 O M1 m1 hA (by rw[e];decide)
  rw[e]at hk
  refine Stop.go ?_
  (try with_reducible refine Fz.of ?_);(replace hb0:=true_and True);refine Go1.mk ?_;repeat' ((first|(with_reducible refine Go1.go ?_)|((with_reducible first|refine brv_mk ?_ ?_|refine gsplitD ?_ ?_|refine gsplitG ?_ ?_)<;>intro h<;>(try simp only[Bool.not_eq_true',Bool.not_eq_false']at h)<;>replace hb0:=h)|(((with_reducible refine isCall (f:=23) ?_);refine callA_nil (by kernel_rfl) ?_;refine (psame_ok g u1 O2 O (hg.le m1) hG hO2 kO ?_)))|(refine And.intro ?_ ?_;(try simp only[sxO]at *);omega)|fail)<;>(try simp (maxSteps:=1000000) only [hb0,he,d2,uo,ul,us,go,so,g1,hasK_nil,↓hold_pre,awayP,runOps,regK,step1,newK,genR,appR,obl,buildR,Value.cells,closeK,keepH,outV,retK,ret1,retC,RetV,Option.getD,runD,stepD,afterK,undef,simprocAttr,sxB,↓sxD,sxE,sxTab]))
  exact .inl hk
 have d2:decide (O2=O)=true:=decide_eq_true hO
 have d3:decide ((L.length:Int)=64)=false:=by rw[decide_eq_false_iff_not];omega
 refine Stop.go ?_
 (try with_reducible refine Fz.of ?_);(replace hb0:=true_and True);refine Go1.mk ?_;repeat' ((first|(with_reducible refine Go1.go ?_)|((with_reducible first|refine brv_mk ?_ ?_|refine gsplitD ?_ ?_|refine gsplitG ?_ ?_)<;>intro h<;>(try simp only[Bool.not_eq_true',Bool.not_eq_false']at h)<;>replace hb0:=h)|(((with_reducible refine isCall (f:=23) ?_);refine callA_nil (by kernel_rfl) ?_;refine (psame_ok g u1 O2 O (hg.le m1) hG hO2 kO ?_)))|(((with_reducible refine isCall (f:=24) ?_);refine callA_nil (by kernel_rfl) ?_;refine (esign_ok f hfe (hf.le m1) (fun cu M2 m2 g2 _=>Stop.mk ?_))))|(refine And.intro ?_ ?_;(try simp only[sxO]at *);omega)|fail)<;>(try simp (maxSteps:=1000000) only [hb0,he,d2,uo,ul,us,go,so,g1,hasK_nil,↓hold_pre,awayP,runOps,regK,step1,newK,genR,appR,obl,buildR,Value.cells,closeK,keepH,outV,retK,ret1,retC,RetV,Option.getD,runD,stepD,afterK,undef,simprocAttr,sxB,↓sxD,sxE,sxTab]))
 have m2:Mem.le M1 M2:=m2
 have co:=g2.one
 have hB:=okB_fa hf
 have m12:=m1.trans m2
 refine Stop.go ?_
 (try with_reducible refine Fz.of ?_);(replace hb0:=true_and True);refine Go1.mk ?_;repeat' ((first|(with_reducible refine Go1.go ?_)|((with_reducible first|refine brv_mk ?_ ?_|refine gsplitD ?_ ?_|refine gsplitG ?_ ?_)<;>intro h<;>(try simp only[Bool.not_eq_true',Bool.not_eq_false']at h)<;>replace hb0:=h)|(((with_reducible refine isCall (f:=18) ?_);refine callA_nil (by kernel_rfl) ?_;refine (gkeys_ok (faB f).1 cu (faB f).2 d g2 hB (fun kv M3 m3 g3 _=>Stop.mk ?_))))|(refine And.intro ?_ ?_;(try simp only[sxO]at *);omega)|fail)<;>(try simp (maxSteps:=1000000) only [hb0,sgT,d3,uo,ul,us,go,so,g1,co,hasK_nil,↓hold_pre,awayP,runOps,regK,step1,newK,genR,appR,obl,buildR,Value.cells,closeK,keepH,outV,retK,ret1,retC,RetV,Option.getD,runD,stepD,afterK,undef,simprocAttr,sxB,↓sxD,sxE,sxTab]))
 have m3:Mem.le M2 M3:=m3
 have ko:=g3.one
 have m13:=m12.trans m3
 refine Stop.go ?_
 (try with_reducible refine Fz.of ?_);(replace hb0:=true_and True);refine Go1.mk ?_;repeat' ((first|(with_reducible refine Go1.go ?_)|((with_reducible first|refine brv_mk ?_ ?_|refine gsplitD ?_ ?_|refine gsplitG ?_ ?_)<;>intro h<;>(try simp only[Bool.not_eq_true',Bool.not_eq_false']at h)<;>replace hb0:=h)|(((with_reducible refine isCall (f:=17) ?_);refine callA_nil (by kernel_rfl) ?_;refine (gsigns_ok u L d (hu.le m13) (fun x h=>(ho x h).le m13) (by omega) (fun h=>absurd he h) (fun _ v S M4 m4 h1 h2 h3 _=>Stop.mk ?_))))|(refine And.intro ?_ ?_;(try simp only[sxO]at *);omega)|fail)<;>(try simp (maxSteps:=1000000) only [hb0,uo,ul,us,go,so,g1,co,ko,hasK_nil,↓hold_pre,awayP,runOps,regK,step1,newK,genR,appR,obl,buildR,Value.cells,closeK,keepH,outV,retK,ret1,retC,RetV,Option.getD,runD,stepD,afterK,undef,simprocAttr,sxB,↓sxD,sxE,sxTab]))
 have m4:Mem.le M3 M4:=m4
 have vo:=h1.one
 refine Stop.go ?_
 (try with_reducible refine Fz.of ?_);(replace hb0:=true_and True);refine Go1.mk ?_;repeat' ((first|(with_reducible refine Go1.go ?_)|((with_reducible first|refine brv_mk ?_ ?_|refine gsplitD ?_ ?_|refine gsplitG ?_ ?_)<;>intro h<;>(try simp only[Bool.not_eq_true',Bool.not_eq_false']at h)<;>replace hb0:=h)|(refine And.intro ?_ ?_;(try simp only[sxO]at *);omega)|fail)<;>(try simp (maxSteps:=1000000) only [hb0,uo,ul,us,go,so,g1,co,ko,vo,hasK_nil,↓hold_pre,awayP,runOps,regK,step1,newK,genR,appR,obl,buildR,Value.cells,closeK,keepH,outV,retK,ret1,retC,RetV,Option.getD,runD,stepD,afterK,undef,simprocAttr,sxB,↓sxD,sxE,sxTab]))
 refine ⟨fun z=>z=pfA M4 g v kv cu d,?_,?_⟩
 ·(try with_reducible refine Fz.of ?_);(replace hb0:=true_and True);refine Go1.mk ?_;repeat' ((first|(with_reducible refine Go1.go ?_)|((with_reducible first|refine brv_mk ?_ ?_|refine gsplitD ?_ ?_|refine gsplitG ?_ ?_)<;>intro h<;>(try simp only[Bool.not_eq_true',Bool.not_eq_false']at h)<;>replace hb0:=h)|(refine And.intro ?_ ?_;(try simp only[sxO]at *);omega)|fail)<;>(try simp (maxSteps:=1000000) only [hb0,uo,ul,us,go,so,g1,co,ko,vo,hasK_nil,↓hold_pre,awayP,runOps,regK,step1,newK,genR,appR,obl,buildR,Value.cells,closeK,keepH,outV,retK,ret1,retC,RetV,Option.getD,runD,stepD,afterK,undef,simprocAttr,sxB,↓sxD,sxE,sxTab]))
  exact ⟨pfA M4 g v kv cu d,le_sub ⟨rfl,rfl,rfl,rfl,rfl,trivial⟩ ⟨rfl,rfl,rfl,trivial⟩ rfl rfl rfl (keepLt0 _),rfl⟩
 rintro z rfl
 refine Fz.bind ?_
 refine Fz.box (k:=14) (q:=1) (T:=58) 14 [v] [(13,.own 13 0),(7,.own 7 0),(16,.ext (.slice none 0 0)),(0,.ext g)] [(13,39,[.ext kv]),(7,3,[.ext (.int .i64 d)])] rfl rfl rfl (Nat.zero_le _) ⟨rfl,rfl,rfl,rfl,trivial⟩ rfl ⟨rfl,rfl,trivial⟩ rfl (keepLt0 _) (fun j hj=>absurd hj (Nat.not_lt_zero _)) (fun M5 U5 m5 hU5=>?_)
 have m5:Mem.le M4 M5:=m5
 have P5:=PtM.box hU5 tk58 tz58
 generalize elemP U5 1 0=p5 at P5 ⊢
 have po5:=P5.one
 refine Fz.bind ?_
 refine Fz.box (k:=13) (q:=1) (T:=39) 13 [kv] [(14,.ext p5),(7,.own 7 0),(16,.ext (.slice none 0 0)),(0,.ext g)] [(7,3,[.ext (.int .i64 d)])] rfl rfl rfl (Nat.zero_le _) ⟨rfl,rfl,rfl,rfl,trivial⟩ rfl ⟨rfl,trivial⟩ rfl (keepLt0 _) (fun j hj=>absurd hj (Nat.not_lt_zero _)) (fun M6 U6 m6 hU6=>?_)
 have m6:Mem.le M5 M6:=m6
 have P6:=PtM.box hU6 tk39 tz39
 generalize elemP U6 1 0=p6 at P6 ⊢
 have po6:=P6.one
 refine Fz.box (k:=7) (q:=1) (T:=3) 7 [.int .i64 d] [(14,.ext p5),(13,.ext p6),(16,.ext (.slice none 0 0)),(0,.ext g)] [] rfl rfl rfl (Nat.zero_le _) ⟨rfl,rfl,rfl,rfl,trivial⟩ rfl trivial rfl (keepLt0 _) (fun j hj=>absurd hj (Nat.not_lt_zero _)) (fun M7 U7 m7 hU7=>?_)
 have m7:Mem.le M6 M7:=m7
 have P7:=PtM.box hU7 tk3 tz3
 generalize elemP U7 1 0=p7 at P7 ⊢
 have po7:=P7.one
 have m47:=(m5.trans m6).trans m7
 have hSl:S.length=L.length:=by have:=congrArg List.length h3;rw[List.length_map,List.length_map]at this;exact this
 have hown:(keysB (faB f).1 (faB f).2 d).length<1000000000:=by have:=keysB_two (m:=(faB f).1) (C:=(faB f).2) (d:=d);omega
 have hd:FdM M7 p5 p7 p6 S (L.map faB) d (keysB (faB f).1 (faB f).2 d):=⟨⟨v,kv,P5.le (m6.trans m7),P7,P6.le m7,SlM.le h1 m47,fun s hs=>(h2 s hs).le m47,g3.le (m4.trans m47)⟩,h3,fun s hs=>by
  obtain ⟨x,hx,rfl⟩:=List.mem_map.1 hs
  exact okB_fa (ho x hx),by omega,hown⟩
 have m07:=m13.trans (m4.trans m47)
 have hg7:=hg.le m07
 obtain ⟨fl,_,hfl⟩:=hA.ok he
 have hmem:∀o∈O2,∀j∈o.2,j<S.length:=fun o h j hj=>by
  rw[hO,hfl]at h
  have:=mem_grpO o h j hj
  rw[List.length_map]at this;omega
 have e:fndE L d O O2=0:=by unfold fndE;rw[if_pos he,if_pos hO]
 obtain ⟨G,b1,b2,b3⟩:=hg7
 have hOl:O2.length=G.length:=by rw[←b3,List.length_map]
 have hn64:=hO2.len
 have bl:=b1.len
 have bs':=b1.sl
 unfold fndR at hK2
 rw[hOl]at hK2
 generalize hc:mlk (L.map faB) d (keysB (faB f).1 (faB f).2 d)=c at *
 (try with_reducible refine Fz.of ?_);(replace hb0:=true_and True);refine Go1.mk ?_;repeat' ((first|(with_reducible refine Go1.go ?_)|((with_reducible first|refine brv_mk ?_ ?_|refine gsplitD ?_ ?_|refine gsplitG ?_ ?_)<;>intro h<;>(try simp only[Bool.not_eq_true',Bool.not_eq_false']at h)<;>replace hb0:=h)|(refine And.intro ?_ ?_;(try simp only[sxO]at *);omega)|fail)<;>(try simp (maxSteps:=1000000) only [hb0,po5,po6,po7,go,bl,bs',hasK_nil,↓hold_pre,awayP,runOps,regK,step1,newK,genR,appR,obl,buildR,Value.cells,closeK,keepH,outV,retK,ret1,retC,RetV,Option.getD,runD,stepD,afterK,undef,simprocAttr,sxB,↓sxD,sxE,sxTab]))
 refine ⟨fun k z=>∃M' i,k=G.length-i∧i≤G.length∧Mem.le M7 M'∧z=pfB M' g p5 p7 p6 G.length i (finN O2 c i),
  ⟨G.length,pfB M7 g p5 p7 p6 G.length 0 [],(le_nil 16 66 3 1 rfl (.inl rfl)).trans (le_sub ⟨rfl,rfl,rfl,rfl,rfl,rfl,rfl,trivial⟩ ⟨rfl,trivial⟩ rfl rfl rfl (keepLt0 _)),⟨M7,0,by omega,by omega,Mem.le.refl _,rfl⟩⟩,?_⟩
 rintro k z ⟨M8,i,rfl,hi,m8,rfl⟩
 have hcl:(cE natV (finN O2 c i)).length=(finN O2 c i).length:=cE_len _ _
 by_cases hlt:i<G.length
 case neg=>
  obtain rfl:i=G.length:=by omega
  have y1:decide ((G.length:Int)<(G.length:Int))=false:=by simp
  (try with_reducible refine Fz.of ?_);(replace hb0:=true_and True);refine Go1.mk ?_;repeat' ((first|(with_reducible refine Go1.go ?_)|((with_reducible first|refine brv_mk ?_ ?_|refine gsplitD ?_ ?_|refine gsplitG ?_ ?_)<;>intro h<;>(try simp only[Bool.not_eq_true',Bool.not_eq_false']at h)<;>replace hb0:=h)|(refine And.intro ?_ ?_;(try simp only[sxO]at *);omega)|fail)<;>(try simp (maxSteps:=1000000) only [hb0,pfB,y1,po5,po6,po7,go,hcl,cE_ment,cE_kill,hasK_nil,↓hold_pre,awayP,runOps,regK,step1,newK,genR,appR,obl,buildR,Value.cells,closeK,keepH,outV,retK,ret1,retC,RetV,Option.getD,runD,stepD,afterK,undef,simprocAttr,sxB,↓sxD,sxE,sxTab]))
  refine FrzF.tup [] [.int .i64 0] ((finN O2 c G.length).map natV) rfl (by rw[List.length_map,Nat.mul_one]) fun w M9 n1 n2 n3=>hK2 O M9 w ((m07.trans m8).trans n1) hA e (by unfold IsL;exact n2)
 have y1:decide ((i:Int)<(G.length:Int))=true:=by rw[decide_eq_true_eq];omega
 have y2:(0:Int)≤(i:Int):=by omega
 have y3:(i:Int)<(G.length:Int):=by omega
 have wi:IntKind.i64.wrap ((i:Int)+1)=((i+1:Nat):Int):=by rw[wrap_id (by omega) (by omega)];omega
 have b1:=b1.le m8
 have hnn:=b1.nn hlt
 have at1:lookM Tryz.prog 43 M8 (elemP g 3 i)=some (.agg (GX.c G[i]).toArray):=b1.at (P:=Tryz.prog) (T:=43) (fun _=>rfl) tk43 tz43 hlt
 have hGi:=(b2 _ (List.getElem_mem hlt)).le m8
 have hOi:O2.getD i (([],[]),[])=GX.o G[i]:=by
  rw[←b3,List.getD_eq_getElem?_getD,List.getElem?_map,List.getElem?_eq_getElem hlt];rfl
 have hmi:∀j∈(GX.o G[i]).2,j<S.length:=fun j hj=>hmem _ (by rw[←b3];exact List.mem_map_of_mem (List.getElem_mem hlt)) j hj
 have hl64:(GX.o G[i]).2.length≤64:=(hO2.at_ _ (by rw[←b3];exact List.mem_map_of_mem (List.getElem_mem hlt))).2.1
 have hsu:=finN_succ (O:=O2) (c:=c) (k:=i)
 have hle:=finN_le (O:=O2) (c:=c) (k:=i)
 rw[hOi]at hsu
 generalize G[i]=gi at *
 obtain ⟨gm,gy,gC,gu,gl⟩:=gi
 have at1:lookM Tryz.prog 43 M8 (elemP g 3 i)=some (.agg #[.string (bs gm),gy,gu]):=at1
 have l1:IsL M8 natV gu gl:=hGi.2
 have yo:gy.oneCell'=true:=hGi.1.one
 have lo:=l1.one
 have hmi:∀j∈gl,j<S.length:=hmi
 have hl64:gl.length≤64:=hl64
 have hsu:finN O2 c (i+1)=if gl.any c=true then finN O2 c i++[i] else finN O2 c i:=hsu
 have hd8:=hd.le m8
 (try with_reducible refine Fz.of ?_);(replace hb0:=true_and True);refine Go1.mk ?_;repeat' ((first|(with_reducible refine Go1.go ?_)|((with_reducible first|refine brv_mk ?_ ?_|refine gsplitD ?_ ?_|refine gsplitG ?_ ?_)<;>intro h<;>(try simp only[Bool.not_eq_true',Bool.not_eq_false']at h)<;>replace hb0:=h)|(((with_reducible refine isCall (f:=25) ?_);refine callA_nil (by kernel_rfl) ?_;refine (nContainsF_ok gu p5 p7 p6 S (L.map faB) d (keysB (faB f).1 (faB f).2 d) gl l1 (by omega) hd8 hmi (fun M9 m9=>Stop.mk ?_))))|(refine And.intro ?_ ?_;(try simp only[sxO]at *);omega)|fail)<;>(try simp (maxSteps:=1000000) only [hb0,pfB,y1,y2,y3,hnn,at1,yo,lo,po5,po6,po7,go,bl,bs',hcl,cE_ment,cE_kill,hasK_nil,bs_mk,bs_app,bs_ext,bs_size,bs_toList,bs_at,bs_cells,List.take_length,imp_ga,guard_pk,guard_pk2,↓hold_pre,awayP,runOps,regK,step1,newK,genR,appR,obl,buildR,Value.cells,closeK,keepH,outV,retK,ret1,retC,RetV,Option.getD,runD,stepD,afterK,undef,simprocAttr,sxB,↓sxD,sxE,sxTab]))
 have m9:Mem.le M8 M9:=m9
 rw[hc]
 cases ha:gl.any c with
 | false=>
  rw[ha,if_neg (by decide)]at hsu
  refine Stop.go ?_
  (try with_reducible refine Fz.of ?_);(replace hb0:=true_and True);refine Go1.mk ?_;repeat' ((first|(with_reducible refine Go1.go ?_)|((with_reducible first|refine brv_mk ?_ ?_|refine gsplitD ?_ ?_|refine gsplitG ?_ ?_)<;>intro h<;>(try simp only[Bool.not_eq_true',Bool.not_eq_false']at h)<;>replace hb0:=h)|(refine And.intro ?_ ?_;(try simp only[sxO]at *);omega)|fail)<;>(try simp (maxSteps:=1000000) only [hb0,wi,yo,lo,po5,po6,po7,go,hcl,cE_ment,cE_kill,hasK_nil,↓hold_pre,awayP,runOps,regK,step1,newK,genR,appR,obl,buildR,Value.cells,closeK,keepH,outV,retK,ret1,retC,RetV,Option.getD,runD,stepD,afterK,undef,simprocAttr,sxB,↓sxD,sxE,sxTab]))
  exact ⟨G.length-(i+1),pfB M9 g p5 p7 p6 G.length (i+1) (finN O2 c (i+1)),by omega,le_sub ⟨rfl,rfl,rfl,by rw[hsu];rfl,rfl,rfl,rfl,trivial⟩ ⟨by rw[hsu];rfl,trivial⟩ rfl rfl rfl (keepLt0 _),M9,i+1,rfl,by omega,m8.trans m9,rfl⟩
 | true=>
  rw[ha,if_pos rfl]at hsu
  have hap:cE natV (finN O2 c i)++[.ext (.int .i64 (i:Int))]=cE natV (finN O2 c i++[i]):=cE_snoc natV _ _
  have hl1:(finN O2 c (i+1)).length=(finN O2 c i).length+1:=by rw[hsu,List.length_append];rfl
  refine Stop.go ?_
  (try with_reducible refine Fz.of ?_);(replace hb0:=true_and True);refine Go1.mk ?_;repeat' ((first|(with_reducible refine Go1.go ?_)|((with_reducible first|refine brv_mk ?_ ?_|refine gsplitD ?_ ?_|refine gsplitG ?_ ?_)<;>intro h<;>(try simp only[Bool.not_eq_true',Bool.not_eq_false']at h)<;>replace hb0:=h)|(refine And.intro ?_ ?_;(try simp only[sxO]at *);omega)|fail)<;>(try simp (maxSteps:=1000000) only [hb0,wi,hap,maxLen,yo,lo,po5,po6,po7,go,hcl,cE_ment,cE_kill,hasK_nil,↓hold_pre,awayP,runOps,regK,step1,newK,genR,appR,obl,buildR,Value.cells,closeK,keepH,outV,retK,ret1,retC,RetV,Option.getD,runD,stepD,afterK,undef,simprocAttr,sxB,↓sxD,sxE,sxTab]))
  exact ⟨G.length-(i+1),pfB M9 g p5 p7 p6 G.length (i+1) (finN O2 c (i+1)),by omega,le_sub ⟨rfl,rfl,rfl,by simp[lk,pfB,hl1],rfl,rfl,rfl,trivial⟩ ⟨by rw[hsu];rfl,trivial⟩ rfl rfl rfl (keepLt0 _),M9,i+1,rfl,by omega,m8.trans m9,rfl⟩
end
end Go.Proofs.YtoblkpomikokhaaGreat.Sx
