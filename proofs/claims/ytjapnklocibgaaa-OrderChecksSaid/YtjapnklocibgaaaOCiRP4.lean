/- Part 37 of the texts of this claim: a symbolic executor and contracts of functions. -/
import Derived.Test.YtjapnklocibgaaaOCiRP3
import Derived.Test.YtjapnklocibgaaaOCiRCPar
import Derived.Test.YtjapnklocibgaaaOCiRCRow
import Derived.ChangeArms
namespace Go.Proofs.Ytjapnklocibgaaa.Sx
open Go Go.RowKit
set_option linter.unusedVariables false
set_option linter.unusedSimpArgs false
set_option maxRecDepth 100000
set_option maxHeartbeats 8000000
attribute [local congr] fin_congr finG_congr stepG_congr step1_congr runOps_congr brv_congr obl_congr condK_congr LoopK_congr seqK_congr CutK_congr vc_congr DrawK_congr regK_congr CallK_congr AskK_congr newK_congr retC_congr ret1_congr retK_congr outV_congr closeK_congr genR_congr appR_congr finD_congr finGD_congr stepGD_congr stepD_congr CallK0_congr runD_congr okR_congr CallS_congr vcX_congr
attribute [local congr] Stop_congr
section
variable {M:Mem}{K:AV→Hp→Mem→Prop}
def sameSt(M:Mem)(u1 u2:Value)(i:Nat):St:={env:=[(5,.ext (.int .i64 (i:Int))),(4,.ext (.bool false)),(1,.ext u2),(0,.ext u1)],hp:=[],M:=M,kb:=0,fx:=[]}
theorem sameInts_ok(u1 u2:Value)(l1 l2:List Int)(h1:IsL M intV64 u1 l1)(h2:IsL M intV64 u2 l2)(hb:l1.length<1000000000)(hb2:l2.length<1000000000)(hK:K (.ext (.bool (decide (l1=l2)))) [] M):CallS Try.prog 23 [.ext u1,.ext u2] [] M [] K:=by
 refine inlS (cs:=[]) Try.mixed Try.func23 rfl (by kernel_rfl) 0 rfl rfl ?_
 simp only[Try.f23]
 by_cases hl:l1.length=l2.length
 ·have hl2:decide ((l1.length:Int)=(l2.length:Int))=true:=by simp[hl]
  (replace hb0:=true_and True);refine Go1.mk ?_;repeat' ((first|(with_reducible refine Go1.go ?_)|((with_reducible first|refine brv_mk ?_ ?_|refine gsplitD ?_ ?_|refine gsplitG ?_ ?_)<;>intro h<;>(try simp only[Bool.not_eq_true',Bool.not_eq_false']at h)<;>replace hb0:=h)|((with_reducible refine isDraw [some 17,some 18,some 19,some 20,some 21,some 22,some 23,some 24,some 25] (by decide) ?_);refine draw_rule [(0,[]),(1,[]),(2,[]),(3,[]),(4,[3]),(5,[3]),(6,[3]),(7,[3]),(8,[])] [[],[],[0,1],[0,1,2],[],[],[4,5],[4,5,6],[0,1,2,3,4,5,6,7]] [17,18,19,20,21,22,23,24] [] (by kernel_rfl) (by kernel_rfl) (by kernel_rfl) (by kernel_rfl) (by exact trivial) ?_)|(refine And.intro ?_ ?_;(try simp only[sxO]at *);omega)|fail)<;>(try simp (maxSteps:=1000000) only [hb0,h1.len,h1.sl,h2.len,h2.sl,hl2,↓hold_pre,awayP,runOps,regK,step1,newK,genR,appR,obl,buildR,Value.cells,closeK,keepH,outV,retK,ret1,retC,RetV,Option.getD,runD,stepD,afterK,undef,simprocAttr,sxB,↓sxD,sxE,sxTab]))
  refine ⟨fun m z=>∃i,i≤l1.length∧l1.take i=l2.take i∧m=l1.length-i∧z=sameSt M u1 u2 i,⟨l1.length,sameSt M u1 u2 0,le_sub ⟨rfl,rfl,rfl,rfl,trivial⟩ trivial rfl rfl rfl (keepLt0 _),⟨0,by omega,rfl,rfl,rfl⟩⟩,?_⟩
  rintro m z ⟨i,hi,hpre,rfl,rfl⟩
  by_cases hlt:i<l1.length
  ·have hlt2:i<l2.length:=by omega
   have f1:=h1.idx (P:=Try.prog) (T:=3) tk3 tz3 (by omega) hlt
   have f2:=h2.idx (P:=Try.prog) (T:=3) tk3 tz3 (by omega) hlt2
   (replace hb0:=true_and True);refine Go1.mk ?_;repeat' ((first|(with_reducible refine Go1.go ?_)|((with_reducible first|refine brv_mk ?_ ?_|refine gsplitD ?_ ?_|refine gsplitG ?_ ?_)<;>intro h<;>(try simp only[Bool.not_eq_true',Bool.not_eq_false']at h)<;>replace hb0:=h)|((with_reducible refine isDraw [some 17,some 18,some 19,some 20,some 21,some 22,some 23,some 24,some 25] (by decide) ?_);refine draw_rule [(0,[]),(1,[]),(2,[]),(3,[]),(4,[3]),(5,[3]),(6,[3]),(7,[3]),(8,[])] [[],[],[0,1],[0,1,2],[],[],[4,5],[4,5,6],[0,1,2,3,4,5,6,7]] [17,18,19,20,21,22,23,24] [] (by kernel_rfl) (by kernel_rfl) (by kernel_rfl) (by kernel_rfl) (by exact trivial) ?_)|(refine And.intro ?_ ?_;(try simp only[sxO]at *);omega)|fail)<;>(try simp (maxSteps:=1000000) only [hb0,f1,f2,intV64,sameSt,↓hold_pre,awayP,runOps,regK,step1,newK,genR,appR,obl,buildR,Value.cells,closeK,keepH,outV,retK,ret1,retC,RetV,Option.getD,runD,stepD,afterK,undef,simprocAttr,sxB,↓sxD,sxE,sxTab]))
   ·have e:decide (l1=l2)=false:=by
     simp only[Bool.not_eq_true',decide_eq_false_iff_not]at h ⊢
     intro e;subst e;exact h rfl
    rw[e]at hK;exact hK
   ·simp only[Bool.not_eq_false',decide_eq_true_eq]at h
    refine ⟨l1.length-(i+1),sameSt M u1 u2 (i+1),by omega,le_sub ⟨rfl,rfl,rfl,rfl,trivial⟩ trivial rfl rfl rfl (keepLt0 _),i+1,by omega,?_,rfl,rfl⟩
    rw[List.take_succ_eq_append_getElem hlt,List.take_succ_eq_append_getElem hlt2,hpre,h]
  ·have f1:=h1.fin hlt
   have ei:i=l1.length:=by omega
   subst ei
   rw[List.take_length,hl,List.take_length]at hpre
   have e:decide (l1=l2)=true:=by simp[hpre]
   rw[e]at hK
   (replace hb0:=true_and True);refine Go1.mk ?_;repeat' ((first|(with_reducible refine Go1.go ?_)|((with_reducible first|refine brv_mk ?_ ?_|refine gsplitD ?_ ?_|refine gsplitG ?_ ?_)<;>intro h<;>(try simp only[Bool.not_eq_true',Bool.not_eq_false']at h)<;>replace hb0:=h)|((with_reducible refine isDraw [some 17,some 18,some 19,some 20,some 21,some 22,some 23,some 24,some 25] (by decide) ?_);refine draw_rule [(0,[]),(1,[]),(2,[]),(3,[]),(4,[3]),(5,[3]),(6,[3]),(7,[3]),(8,[])] [[],[],[0,1],[0,1,2],[],[],[4,5],[4,5,6],[0,1,2,3,4,5,6,7]] [17,18,19,20,21,22,23,24] [] (by kernel_rfl) (by kernel_rfl) (by kernel_rfl) (by kernel_rfl) (by exact trivial) ?_)|(refine And.intro ?_ ?_;(try simp only[sxO]at *);omega)|fail)<;>(try simp (maxSteps:=1000000) only [hb0,f1,sameSt,↓hold_pre,awayP,runOps,regK,step1,newK,genR,appR,obl,buildR,Value.cells,closeK,keepH,outV,retK,ret1,retC,RetV,Option.getD,runD,stepD,afterK,undef,simprocAttr,sxB,↓sxD,sxE,sxTab]))
   exact hK
 ·have hl2:decide ((l1.length:Int)=(l2.length:Int))=false:=by simp;omega
  have e:decide (l1=l2)=false:=by
   simp only[decide_eq_false_iff_not]
   intro e;subst e;exact hl rfl
  rw[e]at hK
  (replace hb0:=true_and True);refine Go1.mk ?_;repeat' ((first|(with_reducible refine Go1.go ?_)|((with_reducible first|refine brv_mk ?_ ?_|refine gsplitD ?_ ?_|refine gsplitG ?_ ?_)<;>intro h<;>(try simp only[Bool.not_eq_true',Bool.not_eq_false']at h)<;>replace hb0:=h)|((with_reducible refine isDraw [some 17,some 18,some 19,some 20,some 21,some 22,some 23,some 24,some 25] (by decide) ?_);refine draw_rule [(0,[]),(1,[]),(2,[]),(3,[]),(4,[3]),(5,[3]),(6,[3]),(7,[3]),(8,[])] [[],[],[0,1],[0,1,2],[],[],[4,5],[4,5,6],[0,1,2,3,4,5,6,7]] [17,18,19,20,21,22,23,24] [] (by kernel_rfl) (by kernel_rfl) (by kernel_rfl) (by kernel_rfl) (by exact trivial) ?_)|(refine And.intro ?_ ?_;(try simp only[sxO]at *);omega)|fail)<;>(try simp (maxSteps:=1000000) only [hb0,h1.len,h1.sl,h2.len,h2.sl,hl2,↓hold_pre,awayP,runOps,regK,step1,newK,genR,appR,obl,buildR,Value.cells,closeK,keepH,outV,retK,ret1,retC,RetV,Option.getD,runD,stepD,afterK,undef,simprocAttr,sxB,↓sxD,sxE,sxTab]))
  exact hK
theorem IsL.nat{u:Value}{l:List Nat}(h:IsL M natV u l):IsL M intV64 u (l.map fun (x:Nat)=>(x:Int)):=by
 unfold IsL at h ⊢
 rw[List.map_map,List.length_map]
 exact h
theorem same_bor{k:Nat}{u:Value}{l1 l2:List Int}{T:TypeId}{H:Hp}(hp:pureH H)(hk:lkH H k=some (T,cE intV64 l2)){n:Nat}(hn:n=l2.length)(hu:IsL M intV64 u l1)(hb:l1.length<1000000000)(hb2:l2.length<1000000000)(hK:K (.ext (.bool (decide (l1=l2)))) H M):CallS Try.prog 23 [.ext u,.slo k 0 n 1] H M [] K:=by
 refine CallS.bor hp fun us M' hM hb'=>?_
 obtain ⟨_,_,rfl,rfl,v2,_,rfl,h2,rfl⟩:=hb'
 exact sameInts_ok _ v2 l1 l2 (hu.le hM) (h2.isL hk hn) hb hb2 (BorK.same hK)
theorem BorV.isI{M:Mem}{H:Hp}{k n:Nat}{L:List IR}{u:Value}{T:TypeId}(h:BorV M H (.slo k 0 n 5) u)(hk:lkH H k=some (T,irC L))(hn:n=L.length):IsR M 5 IR.c u L:=by
 have hl:=flat_len (z:=5) (f:=IR.c) (fun _=>rfl) L
 have:=h T (L.flatMap IR.c) hk (by omega)
 rw[List.drop_zero,List.take_of_length_le (by omega),hn]at this
 exact this
theorem oorder_bor(k n:Nat)(T:TypeId){L:List IR}(hn:n=L.length)(hL:okIL M L)(hb:L.length<1000000)(hK:∀v Z M',Mem.le M M'→ordS L Z→IsL M' natV v Z→K (.ext (.tuple #[v,.int .i64 (ordE L)])) [(k,T,irC L)] M') :
  CallS Try.prog 11 [.slo k 0 n 5] [(k,T,irC L)] M [] K:=by
 refine CallS.bor ⟨⟨_,rfl⟩,trivial⟩ fun us M' hM hb'=>?_
 obtain ⟨v1,_,rfl,h1,rfl⟩:=hb'
 have g1:=h1.isI (L:=L) (T:=T) (by simp[lkH]) hn
 refine order_ok g1 (hL.le hM) hb fun v Z M2 a1 a2 a3 a4=>?_
 exact ⟨fun j hj=>rfl,fun M3 h5 h6 _=>hK v Z M3 h5 a2 (a3.move a4 h6)⟩
theorem oloss_bor(k n:Nat)(T:TypeId){L:List IR}{v:Value}{o:List Int}(hn:n=L.length)(hL:okIL M L)(hb:L.length<1000000)(hv:IsL M intV64 v o)(hb2:o.length<1000000)(hK:∀w1 w2 M',Mem.le M M'→IsL M' u32V w1 (ofN (losP L o).1)→IsL M' u32V w2 (ofN (losP L o).2)→K (.ext (.tuple #[.agg #[w1,w2],.int .i64 (errO L o)])) [(k,T,irC L)] M') :
  CallS Try.prog 12 [.slo k 0 n 5,.ext v] [(k,T,irC L)] M [] K:=by
 refine CallS.bor ⟨⟨_,rfl⟩,trivial⟩ fun us M' hM hb'=>?_
 obtain ⟨v1,_,rfl,h1,v2,_,rfl,rfl,rfl⟩:=hb'
 have g1:=h1.isI (L:=L) (T:=T) (by simp[lkH]) hn
 refine oloss_ok g1 (hL.le hM) hb (hv.le hM) hb2 fun w1 w2 M2 a1 a2 a3 a4 a5=>?_
 exact ⟨fun j hj=>rfl,fun M3 h5 h6 _=>hK w1 w2 M3 h5 (a2.move a4 h6) (a3.move a5 h6)⟩
end
end Go.Proofs.Ytjapnklocibgaaa.Sx
namespace Go.Proofs.Ytjapnklocibgaaa.Sx
open Go
theorem ratC_pre{L:List IR}(hc:∀x∈L,chkI x=true):PreO (ratC L):=by
 have pos:∀x,0<(itA L x).cost.toNat*valN (itA L x).l2:=fun x=>by
  by_cases hx:x<L.length
  ·rw[itA_in hx]
   have h:=chkI_parts (hc _ (List.getElem_mem hx))
   exact Nat.mul_pos (by omega) (chkF_pos h.1)
  ·have:itA L x=itD:=by unfold itA;rw[List.getElem?_eq_none (by omega)];rfl
   rw[this];decide
 have h1:PreO (fun x y=>cmpN (valN (itA L y).l1*((itA L x).cost.toNat*valN (itA L x).l2)) (valN (itA L x).l1*((itA L y).cost.toNat*valN (itA L y).l2))):=⟨fun x y=>cmpN_anti _ _,fun x y z g1 g2=>by
  have px:=pos x
  have py:=pos y
  have pz:=pos z
  rw[cmpN_le0]at g1 g2 ⊢
  generalize (itA L x).cost.toNat*valN (itA L x).l2=kx at *
  generalize (itA L y).cost.toNat*valN (itA L y).l2=ky at *
  generalize (itA L z).cost.toNat*valN (itA L z).l2=kz at *
  generalize valN (itA L x).l1=nx at *
  generalize valN (itA L y).l1=ny at *
  generalize valN (itA L z).l1=nz at *
  have q1:=Nat.mul_le_mul_right kz g1
  have q2:=Nat.mul_le_mul_right kx g2
  refine Nat.le_of_mul_le_mul_right (c:=ky) ?_ py
  calc nz*kx*ky=nz*ky*kx:=by rw[Nat.mul_right_comm]
   _≤ny*kz*kx:=q2
   _=ny*kx*kz:=by rw[Nat.mul_right_comm]
   _≤nx*ky*kz:=q1
   _=nx*kz*ky:=by rw[Nat.mul_right_comm]⟩
 exact h1.lex ((cmp_S.pre fun x=>(itA L x).pk).lex (cmp_S.pre fun x=>(itA L x).ts))
theorem ordS_one{L:List IR}{Z W:List Nat}(hc:chkIL L=true)(h:ordS L Z)(hW:W.Perm (List.range L.length))(hs:W.Pairwise (ltS (ratC L))):Z=W:=by
 unfold ordS at h
 rw[if_pos hc]at h
 have hcc:=hc
 unfold chkIL at hcc
 rw[Bool.and_eq_true]at hcc
 exact sorted_one (ratC_pre (List.all_eq_true.1 hcc.2)).cmp (h.1.trans hW.symm) h.2 hs
def knoL(w1 w2 w3 w4 w5 w6:Value):List IR:=[⟨[112],[97],w1,w2,ofN 1,ofN 2,4⟩,⟨[112],[98],w3,w4,ofN 1,ofN 3,1⟩,⟨[112],[99],w5,w6,ofN 1,ofN 4,2⟩]
theorem kno_chk(w1 w2 w3 w4 w5 w6:Value):chkIL (knoL w1 w2 w3 w4 w5 w6)=true:=by
 have h1:ofN 1=[1]:=ofN_u32 (by decide) (by decide)
 have h2:ofN 2=[2]:=ofN_u32 (by decide) (by decide)
 have h3:ofN 3=[3]:=ofN_u32 (by decide) (by decide)
 have h4:ofN 4=[4]:=ofN_u32 (by decide) (by decide)
 have c2:chkF [1] [2]=true:=by decide +kernel
 have c3:chkF [1] [3]=true:=by decide +kernel
 have c4:chkF [1] [4]=true:=by decide +kernel
 simp[chkIL,knoL,chkI,h1,h2,h3,h4,c2,c3,c4]
theorem kno_ord{w1 w2 w3 w4 w5 w6:Value}{Z:List Nat}(h:ordS (knoL w1 w2 w3 w4 w5 w6) Z):Z=[1,0,2]:=by
 refine ordS_one (kno_chk _ _ _ _ _ _) h (by show List.Perm [1,0,2] (List.range 3);decide) ?_
 have e1:ratC (knoL w1 w2 w3 w4 w5 w6) 1 0=-1:=by
  simp only[ratC,knoL,itA,List.getElem?_cons_succ,List.getElem?_cons_zero,Option.getD_some,valN_ofN];decide
 have e2:ratC (knoL w1 w2 w3 w4 w5 w6) 1 2=-1:=by
  simp only[ratC,knoL,itA,List.getElem?_cons_succ,List.getElem?_cons_zero,Option.getD_some,valN_ofN];decide
 have e3:ratC (knoL w1 w2 w3 w4 w5 w6) 0 2=-1:=by
  simp only[ratC,knoL,itA,List.getElem?_cons_succ,List.getElem?_cons_zero,Option.getD_some,valN_ofN];decide
 simp[ltS,e1,e2,e3]
theorem kno_err(w1 w2 w3 w4 w5 w6:Value):errO (knoL w1 w2 w3 w4 w5 w6) [1,0,2]=0:=by
 unfold errO
 rw[kno_chk,if_pos rfl]
 have:permB (knoL w1 w2 w3 w4 w5 w6).length [1,0,2]=true:=by show permB 3 [1,0,2]=true;decide
 rw[this,if_pos rfl]
theorem exF_num{x y n d:Nat}(h0:0<y)(hd:0<d)(h:x*d=n*y)(hg:Nat.gcd n d=1)(h1:n<4294967296)(h2:d<4294967296):exF x y=(0,n,d):=exF_eq h0 hd h hg (Nat.le_trans (ofN_len_le (k:=1) (by rw[show wN 1=4294967296 from rfl];exact h1)) (by decide)) (Nat.le_trans (ofN_len_le (k:=1) (by rw[show wN 1=4294967296 from rfl];exact h2)) (by decide))
theorem kno_los(w1 w2 w3 w4 w5 w6:Value):losP (knoL w1 w2 w3 w4 w5 w6) [1,0,2]=(55,12):=by
 unfold losP
 rw[kno_err,if_pos rfl]
 have a1:exF 1 3=(0,1,3):=exF_num (by decide) (by decide) (by decide) (by decide) (by decide) (by decide)
 have a2:exF 5 2=(0,5,2):=exF_num (by decide) (by decide) (by decide) (by decide) (by decide) (by decide)
 have a3:exF 7 4=(0,7,4):=exF_num (by decide) (by decide) (by decide) (by decide) (by decide) (by decide)
 have b2:exF 17 6=(0,17,6):=exF_num (by decide) (by decide) (by decide) (by decide) (by decide) (by decide)
 have b3:exF 110 24=(0,55,12):=exF_num (by decide) (by decide) (by decide) (by decide) (by decide) (by decide)
 simp[losV,costA,knoL,itA,valN_ofN,a1,a2,a3,b2,b3]
end Go.Proofs.Ytjapnklocibgaaa.Sx
namespace Go.Proofs.Ytjapnklocibgaaa.Sx
open Go Go.RowKit
set_option linter.unusedVariables false
set_option linter.unusedSimpArgs false
set_option maxRecDepth 100000
set_option maxHeartbeats 8000000
attribute [local congr] fin_congr finG_congr stepG_congr step1_congr runOps_congr brv_congr obl_congr condK_congr LoopK_congr seqK_congr CutK_congr vc_congr DrawK_congr regK_congr CallK_congr AskK_congr newK_congr retC_congr ret1_congr retK_congr outV_congr closeK_congr genR_congr appR_congr finD_congr finGD_congr stepGD_congr stepD_congr CallK0_congr runD_congr okR_congr CallS_congr vcX_congr
attribute [local congr] Stop_congr
section
variable {M:Mem}{K:AV→Hp→Mem→Prop}
end
theorem isPt_add{v:Value}(o:Nat)(h:isPt v=true):isPt (addP v o)=true:=by
 unfold isPt at h
 split at h
 ·rfl
 ·cases h
theorem addP_addP{v:Value}(a b:Nat)(h:isPt v=true):addP (addP v a) b=addP v (a+b):=by
 unfold isPt at h
 split at h
 ·by_cases ha:a=0<;>by_cases hb:b=0<;>simp[addP,Addr.add,ha,hb,Nat.add_assoc]
 ·cases h
section
variable {M:Mem}{K:AV→Hp→Mem→Prop}{u:Value}{L:List IR}
def rcSt29(M:Mem)(u:Value)(i:Nat):St:={env:=[(3,.ext (.int .i64 (i:Int))),(0,.ext u)],hp:=[],M:=M,kb:=0,fx:=[]}
end
structure IsFw (M:Mem) (u1 u2:Value) (l1 l2:List Nat):Prop where
 n:IsL M u32V u1 l1
 d:IsL M u32V u2 l2
 on:okN l1
 od:okN l2
 bn:l1.length≤140737488351232
 bd:l2.length≤140737488351232
theorem IsFw.le{M M':Mem}{u1 u2:Value}{l1 l2:List Nat}(h:IsFw M u1 u2 l1 l2)(hM:Mem.le M M'):IsFw M' u1 u2 l1 l2:=⟨h.n.le hM,h.d.le hM,h.on,h.od,h.bn,h.bd⟩
structure IR.okW (M:Mem) (x:IR):Prop where
 f:IsFw M x.u1 x.u2 x.l1 x.l2
 lo : -9223372036854775808≤x.cost
 hi:x.cost≤9223372036854775807
def okILw(M:Mem)(L:List IR):Prop:=∀x∈L,x.okW M
theorem IR.okW.le{M M':Mem}{x:IR}(h:x.okW M)(hM:Mem.le M M'):x.okW M':=⟨h.f.le hM,h.lo,h.hi⟩
theorem okILw.le{M M':Mem}{L:List IR}(h:okILw M L)(hM:Mem.le M M'):okILw M' L:=fun x hx=>(h x hx).le hM
theorem IR.ok.w{M:Mem}{x:IR}(h:x.ok M):x.okW M:=⟨⟨h.f.n,h.f.d,h.f.on,h.f.od,by have:=h.f.bn;omega,by have:=h.f.bd;omega⟩,h.lo,h.hi⟩
theorem okILw.small{M:Mem}{L:List IR}(h:okILw M L)(hc:chkIL L=true):okIL M L:=fun x hx=>by
 unfold chkIL at hc
 simp only[Bool.and_eq_true,decide_eq_true_eq]at hc
 have h1:=List.all_eq_true.1 hc.2 x hx
 have h2:=h x hx
 unfold chkI chkF at h1
 simp only[Bool.and_eq_true,decide_eq_true_eq]at h1
 exact ⟨⟨h2.f.n,h2.f.d,h2.f.on,h2.f.od,by omega,by omega⟩,h2.lo,h2.hi⟩
section
variable {M:Mem}{K:AV→Hp→Mem→Prop}{u1 u2:Value}{l1 l2:List Nat}
theorem checkW_ok(u:Value)(l:List Nat)(hu:IsL M u32V u l)(hb:l.length≤140737488351232)(hK:K (.ext (.bool (chkN l))) [] M):CallS Try.prog 62 [.ext u] [] M [] K:=by
 by_cases hs:l.length<1000000000
 ·exact check_ok u l hu hs hK
 refine inlS (cs:=[]) Try.mixed Try.func62 rfl (by kernel_rfl) 0 rfl rfl ?_
 simp only[Try.f62]
 have d1:decide ((l.length:Int)≤128)=false:=by simp;omega
 rw[show chkN l=false by simp[chkN];omega]at hK
 (replace hb0:=true_and True);refine Go1.mk ?_;repeat' ((first|(with_reducible refine Go1.go ?_)|((with_reducible first|refine brv_mk ?_ ?_|refine gsplitD ?_ ?_|refine gsplitG ?_ ?_)<;>intro h<;>(try simp only[Bool.not_eq_true',Bool.not_eq_false']at h)<;>replace hb0:=h)|(refine And.intro ?_ ?_;(try simp only[sxO]at *);omega)|fail)<;>(try simp (maxSteps:=1000000) only [hb0,cE_ment,hasK_nil,cE_kill,cE_len,u32_one,u32_app1,u32_set,Nat.mul_one,hu.one,hu.len,hu.sl,d1,↓hold_pre,awayP,runOps,regK,step1,newK,genR,appR,obl,buildR,Value.cells,closeK,keepH,outV,retK,ret1,retC,RetV,Option.getD,runD,stepD,afterK,undef,simprocAttr,sxB,↓sxD,sxE,sxTab]))
 exact hK
theorem rcheckW_ok(u:Value)(l:List Nat)(hu:IsL M u32V u l)(hb:l.length≤140737488351232)(hK:K (.ext (.bool (chkN l))) [] M):CallS Try.prog 69 [.ext u] [] M [] K:=by
 by_cases hs:l.length<1000000000
 ·exact rcheck_ok u l hu hs hK
 refine inlS (cs:=[]) Try.mixed Try.func69 rfl (by kernel_rfl) 0 rfl rfl ?_
 simp only[Try.f69]
 have d1:decide ((l.length:Int)≤128)=false:=by simp;omega
 rw[show chkN l=false by simp[chkN];omega]at hK
 (replace hb0:=true_and True);refine Go1.mk ?_;repeat' ((first|(with_reducible refine Go1.go ?_)|((with_reducible first|refine brv_mk ?_ ?_|refine gsplitD ?_ ?_|refine gsplitG ?_ ?_)<;>intro h<;>(try simp only[Bool.not_eq_true',Bool.not_eq_false']at h)<;>replace hb0:=h)|(refine And.intro ?_ ?_;(try simp only[sxO]at *);omega)|fail)<;>(try simp (maxSteps:=1000000) only [hb0,cE_ment,hasK_nil,cE_kill,cE_len,u32_one,u32_app1,u32_set,Nat.mul_one,hu.one,hu.len,hu.sl,d1,↓hold_pre,awayP,runOps,regK,step1,newK,genR,appR,obl,buildR,Value.cells,closeK,keepH,outV,retK,ret1,retC,RetV,Option.getD,runD,stepD,afterK,undef,simprocAttr,sxB,↓sxD,sxE,sxTab]))
 exact hK
theorem fcheckW_ok(h:IsFw M u1 u2 l1 l2)(hK:∀M',Mem.le M M'→K (.ext (.bool (chkF l1 l2))) [] M'):CallS Try.prog 43 [.ext (.agg #[u1,u2])] [] M [] K:=by
 by_cases hs:l1.length<1000000∧l2.length<1000000
 ·exact fcheck_ok h.n h.d h.on h.od hs.1 hs.2 hK
 have h1:=h.n
 have h2:=h.d
 have hf:chkN l1=false∨chkN l2=false:=by
  by_cases hl:l1.length<1000000
  ·exact .inr (by simp[chkN];omega)
  ·exact .inl (by simp[chkN];omega)
 refine inlS (cs:=[]) Try.mixed Try.func43 rfl (by kernel_rfl) 0 rfl rfl ?_
 simp only[Try.f43]
 unfold chkF at hK
 cases hc1:chkN l1 with
 | false=>
  rw[hc1]at hK
  (replace hb0:=true_and True);refine Go1.mk ?_;repeat' ((first|(with_reducible refine Go1.go ?_)|((with_reducible first|refine brv_mk ?_ ?_|refine gsplitD ?_ ?_|refine gsplitG ?_ ?_)<;>intro h<;>(try simp only[Bool.not_eq_true',Bool.not_eq_false']at h)<;>replace hb0:=h)|(((with_reducible refine isCall (f:=62) ?_);refine callA_nil (by kernel_rfl) ?_;refine (checkW_ok u1 l1 h1 h.bn ?_)))|(refine And.intro ?_ ?_;(try simp only[sxO]at *);omega)|fail)<;>(try simp (maxSteps:=1000000) only [hb0,h1.one,h2.one,hc1,↓hold_pre,awayP,runOps,regK,step1,newK,genR,appR,obl,buildR,Value.cells,closeK,keepH,outV,retK,ret1,retC,RetV,Option.getD,runD,stepD,afterK,undef,simprocAttr,sxB,↓sxD,sxE,sxTab]))
  exact hK _ (Mem.le.refl _)
 | true=>
  have hc2:chkN l2=false:=hf.resolve_left (by rw[hc1];decide)
  rw[hc1,hc2]at hK
  (replace hb0:=true_and True);refine Go1.mk ?_;repeat' ((first|(with_reducible refine Go1.go ?_)|((with_reducible first|refine brv_mk ?_ ?_|refine gsplitD ?_ ?_|refine gsplitG ?_ ?_)<;>intro h<;>(try simp only[Bool.not_eq_true',Bool.not_eq_false']at h)<;>replace hb0:=h)|(((with_reducible refine isCall (f:=62) ?_);refine callA_nil (by kernel_rfl) ?_;refine (checkW_ok u1 l1 h1 h.bn ?_)))|(((with_reducible refine isCall (f:=62) ?_);refine callA_nil (by kernel_rfl) ?_;refine (checkW_ok u2 l2 h2 h.bd ?_)))|(refine And.intro ?_ ?_;(try simp only[sxO]at *);omega)|fail)<;>(try simp (maxSteps:=1000000) only [hb0,h1.one,h2.one,hc1,hc2,↓hold_pre,awayP,runOps,regK,step1,newK,genR,appR,obl,buildR,Value.cells,closeK,keepH,outV,retK,ret1,retC,RetV,Option.getD,runD,stepD,afterK,undef,simprocAttr,sxB,↓sxD,sxE,sxTab]))
  exact hK _ (Mem.le.refl _)
theorem rfcheckW_ok(h:IsFw M u1 u2 l1 l2)(hK:∀M',Mem.le M M'→K (.ext (.bool (chkF l1 l2))) [] M'):CallS Try.prog 50 [.ext (.agg #[u1,u2])] [] M [] K:=by
 by_cases hs:l1.length<1000000∧l2.length<1000000
 ·exact rfcheck_ok h.n h.d h.on h.od hs.1 hs.2 hK
 have h1:=h.n
 have h2:=h.d
 have hf:chkN l1=false∨chkN l2=false:=by
  by_cases hl:l1.length<1000000
  ·exact .inr (by simp[chkN];omega)
  ·exact .inl (by simp[chkN];omega)
 refine inlS (cs:=[]) Try.mixed Try.func50 rfl (by kernel_rfl) 0 rfl rfl ?_
 simp only[Try.f50]
 unfold chkF at hK
 cases hc1:chkN l1 with
 | false=>
  rw[hc1]at hK
  (replace hb0:=true_and True);refine Go1.mk ?_;repeat' ((first|(with_reducible refine Go1.go ?_)|((with_reducible first|refine brv_mk ?_ ?_|refine gsplitD ?_ ?_|refine gsplitG ?_ ?_)<;>intro h<;>(try simp only[Bool.not_eq_true',Bool.not_eq_false']at h)<;>replace hb0:=h)|(((with_reducible refine isCall (f:=69) ?_);refine callA_nil (by kernel_rfl) ?_;refine (rcheckW_ok u1 l1 h1 h.bn ?_)))|(refine And.intro ?_ ?_;(try simp only[sxO]at *);omega)|fail)<;>(try simp (maxSteps:=1000000) only [hb0,h1.one,h2.one,hc1,↓hold_pre,awayP,runOps,regK,step1,newK,genR,appR,obl,buildR,Value.cells,closeK,keepH,outV,retK,ret1,retC,RetV,Option.getD,runD,stepD,afterK,undef,simprocAttr,sxB,↓sxD,sxE,sxTab]))
  exact hK _ (Mem.le.refl _)
 | true=>
  have hc2:chkN l2=false:=hf.resolve_left (by rw[hc1];decide)
  rw[hc1,hc2]at hK
  (replace hb0:=true_and True);refine Go1.mk ?_;repeat' ((first|(with_reducible refine Go1.go ?_)|((with_reducible first|refine brv_mk ?_ ?_|refine gsplitD ?_ ?_|refine gsplitG ?_ ?_)<;>intro h<;>(try simp only[Bool.not_eq_true',Bool.not_eq_false']at h)<;>replace hb0:=h)|(((with_reducible refine isCall (f:=69) ?_);refine callA_nil (by kernel_rfl) ?_;refine (rcheckW_ok u1 l1 h1 h.bn ?_)))|(((with_reducible refine isCall (f:=69) ?_);refine callA_nil (by kernel_rfl) ?_;refine (rcheckW_ok u2 l2 h2 h.bd ?_)))|(refine And.intro ?_ ?_;(try simp only[sxO]at *);omega)|fail)<;>(try simp (maxSteps:=1000000) only [hb0,h1.one,h2.one,hc1,hc2,↓hold_pre,awayP,runOps,regK,step1,newK,genR,appR,obl,buildR,Value.cells,closeK,keepH,outV,retK,ret1,retC,RetV,Option.getD,runD,stepD,afterK,undef,simprocAttr,sxB,↓sxD,sxE,sxTab]))
  exact hK _ (Mem.le.refl _)
end
section
variable {M:Mem}{K:AV→Hp→Mem→Prop}{u:Value}{L:List IR}
theorem ochk1W_ok(x:IR)(h:x.okW M)(hK:∀M',Mem.le M M'→K (.ext (.bool (!chkI x))) [] M'):CallS Try.prog 52 [.ext (.agg #[.string (bs x.pk),.string (bs x.ts),x.u1,x.u2,.int .i64 x.cost])] [] M [] K:=by
 refine inlS (cs:=[]) Try.mixed Try.func52 rfl (by kernel_rfl) 0 rfl rfl ?_
 simp only[Try.f52]
 obtain ⟨pk,ts,u1,u2,l1,l2,cost⟩:=x
 obtain ⟨hF,_,_⟩:=h
 simp only at hF
 unfold chkI at hK
 simp only at hK ⊢
 cases hc:chkF l1 l2 with
 | false=>
  rw[hc]at hK
  (replace hb0:=true_and True);refine Go1.mk ?_;repeat' ((first|(with_reducible refine Go1.go ?_)|((with_reducible first|refine brv_mk ?_ ?_|refine gsplitD ?_ ?_|refine gsplitG ?_ ?_)<;>intro h<;>(try simp only[Bool.not_eq_true',Bool.not_eq_false']at h)<;>replace hb0:=h)|(((with_reducible refine isCall (f:=43) ?_);refine callA_nil (by kernel_rfl) ?_;refine (fcheckW_ok hF (fun M1 m1=>Stop.mk ?_))))|(refine And.intro ?_ ?_;(try simp only[sxO]at *);omega)|fail)<;>(try simp (maxSteps:=1000000) only [hb0,hF.n.one,hF.d.one,hc,bs_mk,bs_app,bs_ext,bs_size,bs_toList,bs_at,bs_cells,List.take_length,imp_ga,guard_pk,guard_pk2,↓hold_pre,awayP,runOps,regK,step1,newK,genR,appR,obl,buildR,Value.cells,closeK,keepH,outV,retK,ret1,retC,RetV,Option.getD,runD,stepD,afterK,undef,simprocAttr,sxB,↓sxD,sxE,sxTab]))
  have hk:=hK M1 m1
  refine Stop.go ?_
  (replace hb0:=true_and True);refine Go1.mk ?_;repeat' ((first|(with_reducible refine Go1.go ?_)|((with_reducible first|refine brv_mk ?_ ?_|refine gsplitD ?_ ?_|refine gsplitG ?_ ?_)<;>intro h<;>(try simp only[Bool.not_eq_true',Bool.not_eq_false']at h)<;>replace hb0:=h)|(refine And.intro ?_ ?_;(try simp only[sxO]at *);omega)|fail)<;>(try simp (maxSteps:=1000000) only [hb0,hF.n.one,hF.d.one,hc,bs_mk,bs_app,bs_ext,bs_size,bs_toList,bs_at,bs_cells,List.take_length,imp_ga,guard_pk,guard_pk2,↓hold_pre,awayP,runOps,regK,step1,newK,genR,appR,obl,buildR,Value.cells,closeK,keepH,outV,retK,ret1,retC,RetV,Option.getD,runD,stepD,afterK,undef,simprocAttr,sxB,↓sxD,sxE,sxTab]))
  exact hk
 | true=>
  rw[hc]at hK
  (replace hb0:=true_and True);refine Go1.mk ?_;repeat' ((first|(with_reducible refine Go1.go ?_)|((with_reducible first|refine brv_mk ?_ ?_|refine gsplitD ?_ ?_|refine gsplitG ?_ ?_)<;>intro h<;>(try simp only[Bool.not_eq_true',Bool.not_eq_false']at h)<;>replace hb0:=h)|(((with_reducible refine isCall (f:=43) ?_);refine callA_nil (by kernel_rfl) ?_;refine (fcheckW_ok hF (fun M1 m1=>Stop.mk ?_))))|(refine And.intro ?_ ?_;(try simp only[sxO]at *);omega)|fail)<;>(try simp (maxSteps:=1000000) only [hb0,hF.n.one,hF.d.one,hc,bs_mk,bs_app,bs_ext,bs_size,bs_toList,bs_at,bs_cells,List.take_length,imp_ga,guard_pk,guard_pk2,↓hold_pre,awayP,runOps,regK,step1,newK,genR,appR,obl,buildR,Value.cells,closeK,keepH,outV,retK,ret1,retC,RetV,Option.getD,runD,stepD,afterK,undef,simprocAttr,sxB,↓sxD,sxE,sxTab]))
  have hk:=hK M1 m1
  clear hK
  by_cases h1:l1.length≤1
  case neg=>
   have d1:decide ((1:Int)<(l1.length:Int))=true:=by rw[decide_eq_true_eq];omega
   have e1:decide (l1.length≤1)=false:=decide_eq_false h1
   rw[e1]at hk
   refine Stop.go ?_
   (replace hb0:=true_and True);refine Go1.mk ?_;repeat' ((first|(with_reducible refine Go1.go ?_)|((with_reducible first|refine brv_mk ?_ ?_|refine gsplitD ?_ ?_|refine gsplitG ?_ ?_)<;>intro h<;>(try simp only[Bool.not_eq_true',Bool.not_eq_false']at h)<;>replace hb0:=h)|(refine And.intro ?_ ?_;(try simp only[sxO]at *);omega)|fail)<;>(try simp (maxSteps:=1000000) only [hb0,hF.n.one,hF.d.one,hF.n.len,hF.n.sl,hF.d.len,hF.d.sl,hc,d1,bs_mk,bs_app,bs_ext,bs_size,bs_toList,bs_at,bs_cells,List.take_length,imp_ga,guard_pk,guard_pk2,↓hold_pre,awayP,runOps,regK,step1,newK,genR,appR,obl,buildR,Value.cells,closeK,keepH,outV,retK,ret1,retC,RetV,Option.getD,runD,stepD,afterK,undef,simprocAttr,sxB,↓sxD,sxE,sxTab]))
   exact hk
  have d1:decide ((1:Int)<(l1.length:Int))=false:=by rw[decide_eq_false_iff_not];omega
  have e1:decide (l1.length≤1)=true:=decide_eq_true h1
  rw[e1]at hk
  by_cases h2:l2.length≤1
  case neg=>
   have d2:decide ((1:Int)<(l2.length:Int))=true:=by rw[decide_eq_true_eq];omega
   have e2:decide (l2.length≤1)=false:=decide_eq_false h2
   rw[e2]at hk
   refine Stop.go ?_
   (replace hb0:=true_and True);refine Go1.mk ?_;repeat' ((first|(with_reducible refine Go1.go ?_)|((with_reducible first|refine brv_mk ?_ ?_|refine gsplitD ?_ ?_|refine gsplitG ?_ ?_)<;>intro h<;>(try simp only[Bool.not_eq_true',Bool.not_eq_false']at h)<;>replace hb0:=h)|(refine And.intro ?_ ?_;(try simp only[sxO]at *);omega)|fail)<;>(try simp (maxSteps:=1000000) only [hb0,hF.n.one,hF.d.one,hF.n.len,hF.n.sl,hF.d.len,hF.d.sl,hc,d1,d2,bs_mk,bs_app,bs_ext,bs_size,bs_toList,bs_at,bs_cells,List.take_length,imp_ga,guard_pk,guard_pk2,↓hold_pre,awayP,runOps,regK,step1,newK,genR,appR,obl,buildR,Value.cells,closeK,keepH,outV,retK,ret1,retC,RetV,Option.getD,runD,stepD,afterK,undef,simprocAttr,sxB,↓sxD,sxE,sxTab]))
   exact hk
  have d2:decide ((1:Int)<(l2.length:Int))=false:=by rw[decide_eq_false_iff_not];omega
  have e2:decide (l2.length≤1)=true:=decide_eq_true h2
  rw[e2]at hk
  by_cases h3:1≤cost
  case neg=>
   have d3:decide (cost<1)=true:=by rw[decide_eq_true_eq];omega
   have e3:decide (1≤cost)=false:=decide_eq_false h3
   rw[e3]at hk
   refine Stop.go ?_
   (replace hb0:=true_and True);refine Go1.mk ?_;repeat' ((first|(with_reducible refine Go1.go ?_)|((with_reducible first|refine brv_mk ?_ ?_|refine gsplitD ?_ ?_|refine gsplitG ?_ ?_)<;>intro h<;>(try simp only[Bool.not_eq_true',Bool.not_eq_false']at h)<;>replace hb0:=h)|(refine And.intro ?_ ?_;(try simp only[sxO]at *);omega)|fail)<;>(try simp (maxSteps:=1000000) only [hb0,hF.n.one,hF.d.one,hF.n.len,hF.n.sl,hF.d.len,hF.d.sl,hc,d1,d2,d3,bs_mk,bs_app,bs_ext,bs_size,bs_toList,bs_at,bs_cells,List.take_length,imp_ga,guard_pk,guard_pk2,↓hold_pre,awayP,runOps,regK,step1,newK,genR,appR,obl,buildR,Value.cells,closeK,keepH,outV,retK,ret1,retC,RetV,Option.getD,runD,stepD,afterK,undef,simprocAttr,sxB,↓sxD,sxE,sxTab]))
   exact hk
  have d3:decide (cost<1)=false:=by rw[decide_eq_false_iff_not];omega
  have e3:decide (1≤cost)=true:=decide_eq_true h3
  rw[e3]at hk
  by_cases h4:cost≤1048576
  case neg=>
   have d4:decide ((1048576:Int)<cost)=true:=by rw[decide_eq_true_eq];omega
   have e4:decide (cost≤1048576)=false:=decide_eq_false h4
   rw[e4]at hk
   refine Stop.go ?_
   (replace hb0:=true_and True);refine Go1.mk ?_;repeat' ((first|(with_reducible refine Go1.go ?_)|((with_reducible first|refine brv_mk ?_ ?_|refine gsplitD ?_ ?_|refine gsplitG ?_ ?_)<;>intro h<;>(try simp only[Bool.not_eq_true',Bool.not_eq_false']at h)<;>replace hb0:=h)|(refine And.intro ?_ ?_;(try simp only[sxO]at *);omega)|fail)<;>(try simp (maxSteps:=1000000) only [hb0,hF.n.one,hF.d.one,hF.n.len,hF.n.sl,hF.d.len,hF.d.sl,hc,d1,d2,d3,d4,bs_mk,bs_app,bs_ext,bs_size,bs_toList,bs_at,bs_cells,List.take_length,imp_ga,guard_pk,guard_pk2,↓hold_pre,awayP,runOps,regK,step1,newK,genR,appR,obl,buildR,Value.cells,closeK,keepH,outV,retK,ret1,retC,RetV,Option.getD,runD,stepD,afterK,undef,simprocAttr,sxB,↓sxD,sxE,sxTab]))
   exact hk
  have d4:decide ((1048576:Int)<cost)=false:=by rw[decide_eq_false_iff_not];omega
  have e4:decide (cost≤1048576)=true:=decide_eq_true h4
  rw[e4]at hk
  refine Stop.go ?_
  (replace hb0:=true_and True);refine Go1.mk ?_;repeat' ((first|(with_reducible refine Go1.go ?_)|((with_reducible first|refine brv_mk ?_ ?_|refine gsplitD ?_ ?_|refine gsplitG ?_ ?_)<;>intro h<;>(try simp only[Bool.not_eq_true',Bool.not_eq_false']at h)<;>replace hb0:=h)|(refine And.intro ?_ ?_;(try simp only[sxO]at *);omega)|fail)<;>(try simp (maxSteps:=1000000) only [hb0,hF.n.one,hF.d.one,hF.n.len,hF.n.sl,hF.d.len,hF.d.sl,hc,d1,d2,d3,d4,bs_mk,bs_app,bs_ext,bs_size,bs_toList,bs_at,bs_cells,List.take_length,imp_ga,guard_pk,guard_pk2,↓hold_pre,awayP,runOps,regK,step1,newK,genR,appR,obl,buildR,Value.cells,closeK,keepH,outV,retK,ret1,retC,RetV,Option.getD,runD,stepD,afterK,undef,simprocAttr,sxB,↓sxD,sxE,sxTab]))
  exact hk
theorem oidxW_ok(hu:IsR M 5 IR.c u L)(hL:okILw M L)(hb:L.length<1000000)(hK:∀M' (r:Int),Mem.le M M'→((r=-1∧L.all chkI=true)∨(0≤r∧L.all chkI=false))→K (.ext (.int .i64 r)) [] M'):CallS Try.prog 72 [.ext u,.fn 52 []] [] M [] K:=by
 refine inlS (cs:=[]) Try.mixed Try.func72 rfl (by kernel_rfl) 0 rfl rfl ?_
 simp only[Try.f72]
 (replace hb0:=true_and True);refine Go1.mk ?_;repeat' ((first|(with_reducible refine Go1.go ?_)|((with_reducible first|refine brv_mk ?_ ?_|refine gsplitD ?_ ?_|refine gsplitG ?_ ?_)<;>intro h<;>(try simp only[Bool.not_eq_true',Bool.not_eq_false']at h)<;>replace hb0:=h)|(refine And.intro ?_ ?_;(try simp only[sxO]at *);omega)|fail)<;>(try simp (maxSteps:=1000000) only [hb0,hu.one,hu.len,hu.sl,bs_mk,bs_app,bs_ext,bs_size,bs_toList,bs_at,bs_cells,List.take_length,imp_ga,guard_pk,guard_pk2,↓hold_pre,awayP,runOps,regK,step1,newK,genR,appR,obl,buildR,Value.cells,closeK,keepH,outV,retK,ret1,retC,RetV,Option.getD,runD,stepD,afterK,undef,simprocAttr,sxB,↓sxD,sxE,sxTab]))
 refine ⟨fun m z=>∃M' i,m=L.length-i∧i≤L.length∧Mem.le M M'∧(∀x∈L.take i,chkI x=true)∧z=oiSt M' u L.length i,
  ⟨L.length,oiSt M u L.length 0,le_sub ⟨rfl,rfl,rfl,rfl,rfl,trivial⟩ trivial rfl rfl rfl (keepLt0 _),⟨M,0,by omega,by omega,Mem.le.refl _,by simp,rfl⟩⟩,?_⟩
 rintro m z ⟨M2,i,rfl,hi,hM,hp,rfl⟩
 have hu2:=hu.le hM
 have hL2:=hL.le hM
 by_cases hlt:i<L.length
 case neg=>
  obtain rfl:i=L.length:=by omega
  have e1:decide ((L.length:Int)<(L.length:Int))=false:=by simp
  have hk:=hK M2 (-1) hM (.inl ⟨rfl,by rw[List.take_of_length_le (Nat.le_refl _)]at hp;exact List.all_eq_true.2 hp⟩)
  (replace hb0:=true_and True);refine Go1.mk ?_;repeat' ((first|(with_reducible refine Go1.go ?_)|((with_reducible first|refine brv_mk ?_ ?_|refine gsplitD ?_ ?_|refine gsplitG ?_ ?_)<;>intro h<;>(try simp only[Bool.not_eq_true',Bool.not_eq_false']at h)<;>replace hb0:=h)|(refine And.intro ?_ ?_;(try simp only[sxO]at *);omega)|fail)<;>(try simp (maxSteps:=1000000) only [hb0,oiSt,hu2.one,e1,bs_mk,bs_app,bs_ext,bs_size,bs_toList,bs_at,bs_cells,List.take_length,imp_ga,guard_pk,guard_pk2,↓hold_pre,awayP,runOps,regK,step1,newK,genR,appR,obl,buildR,Value.cells,closeK,keepH,outV,retK,ret1,retC,RetV,Option.getD,runD,stepD,afterK,undef,simprocAttr,sxB,↓sxD,sxE,sxTab]))
  exact hk
 have e1:decide ((i:Int)<(L.length:Int))=true:=by rw[decide_eq_true_eq];omega
 have b1:(0:Int)≤(i:Int):=by omega
 have b2:(i:Int)<(L.length:Int):=by omega
 have hnn:=hu2.nn hlt
 have hat:=hu2.at (P:=Try.prog) (T:=46) (fun _=>rfl) tk46 tz46 hlt
 have hmem:=List.getElem_mem hlt
 have hF:=hL2 _ hmem
 have hnx:chkI L[i]=true→∀x∈L.take (i+1),chkI x=true:=fun hx x hm=>by
  rw[List.take_add_one,List.getElem?_eq_getElem hlt]at hm
  rcases List.mem_append.1 hm with h1|h1
  ·exact hp x h1
  ·have:x=L[i]:=by simpa using h1
   rw[this];exact hx
 have wi:IntKind.i64.wrap ((i:Int)+1)=((i+1:Nat):Int):=succ_i (by omega)
 generalize L[i]=x at *
 obtain ⟨pk,ts,x1,x2,y1,y2,co⟩:=x
 have hat:lookM Try.prog 46 M2 (elemP u 5 i)=some (.agg #[.string (bs pk),.string (bs ts),x1,x2,.int .i64 co]):=hat
 have hF1:IsFw M2 x1 x2 y1 y2:=hF.f
 (replace hb0:=true_and True);refine Go1.mk ?_;repeat' ((first|(with_reducible refine Go1.go ?_)|((with_reducible first|refine brv_mk ?_ ?_|refine gsplitD ?_ ?_|refine gsplitG ?_ ?_)<;>intro h<;>(try simp only[Bool.not_eq_true',Bool.not_eq_false']at h)<;>replace hb0:=h)|(((with_reducible refine isCall (f:=52) ?_);refine callA_nil (by kernel_rfl) ?_;refine (ochk1W_ok ⟨pk,ts,x1,x2,y1,y2,co⟩ hF (fun M3 c1=>Stop.mk ?_))))|(refine And.intro ?_ ?_;(try simp only[sxO]at *);omega)|fail)<;>(try simp (maxSteps:=1000000) only [hb0,oiSt,hu2.one,hu2.len,hu2.sl,hnn,e1,b1,b2,hat,hF1.n.one,hF1.d.one,bs_mk,bs_app,bs_ext,bs_size,bs_toList,bs_at,bs_cells,List.take_length,imp_ga,guard_pk,guard_pk2,↓hold_pre,awayP,runOps,regK,step1,newK,genR,appR,obl,buildR,Value.cells,closeK,keepH,outV,retK,ret1,retC,RetV,Option.getD,runD,stepD,afterK,undef,simprocAttr,sxB,↓sxD,sxE,sxTab]))
 have c1:Mem.le M2 M3:=c1
 refine Stop.go ?_
 cases hc:chkI ⟨pk,ts,x1,x2,y1,y2,co⟩ with
 | true=>
  (replace hb0:=true_and True);refine Go1.mk ?_;repeat' ((first|(with_reducible refine Go1.go ?_)|((with_reducible first|refine brv_mk ?_ ?_|refine gsplitD ?_ ?_|refine gsplitG ?_ ?_)<;>intro h<;>(try simp only[Bool.not_eq_true',Bool.not_eq_false']at h)<;>replace hb0:=h)|(refine And.intro ?_ ?_;(try simp only[sxO]at *);omega)|fail)<;>(try simp (maxSteps:=1000000) only [hb0,wi,bs_mk,bs_app,bs_ext,bs_size,bs_toList,bs_at,bs_cells,List.take_length,imp_ga,guard_pk,guard_pk2,↓hold_pre,awayP,runOps,regK,step1,newK,genR,appR,obl,buildR,Value.cells,closeK,keepH,outV,retK,ret1,retC,RetV,Option.getD,runD,stepD,afterK,undef,simprocAttr,sxB,↓sxD,sxE,sxTab]))
  exact ⟨L.length-(i+1),oiSt M3 u L.length (i+1),by omega,le_sub ⟨rfl,rfl,rfl,rfl,rfl,trivial⟩ trivial rfl rfl rfl (keepLt0 _),M3,i+1,rfl,by omega,hM.trans c1,hnx hc,rfl⟩
 | false=>
  have hk:=hK M3 i (hM.trans c1) (.inr ⟨by omega,by
   cases h:L.all chkI with
   | false=>rfl
   | true=>rw[List.all_eq_true.1 h _ hmem]at hc;cases hc⟩)
  (replace hb0:=true_and True);refine Go1.mk ?_;repeat' ((first|(with_reducible refine Go1.go ?_)|((with_reducible first|refine brv_mk ?_ ?_|refine gsplitD ?_ ?_|refine gsplitG ?_ ?_)<;>intro h<;>(try simp only[Bool.not_eq_true',Bool.not_eq_false']at h)<;>replace hb0:=h)|(refine And.intro ?_ ?_;(try simp only[sxO]at *);omega)|fail)<;>(try simp (maxSteps:=1000000) only [hb0,wi,bs_mk,bs_app,bs_ext,bs_size,bs_toList,bs_at,bs_cells,List.take_length,imp_ga,guard_pk,guard_pk2,↓hold_pre,awayP,runOps,regK,step1,newK,genR,appR,obl,buildR,Value.cells,closeK,keepH,outV,retK,ret1,retC,RetV,Option.getD,runD,stepD,afterK,undef,simprocAttr,sxB,↓sxD,sxE,sxTab]))
  exact hk
theorem ocontW_ok(hu:IsR M 5 IR.c u L)(hL:okILw M L)(hb:L.length<1000000)(hK:∀M',Mem.le M M'→K (.ext (.bool (!L.all chkI))) [] M'):CallS Try.prog 51 [.ext u,.fn 52 []] [] M [] K:=by
 refine inlS (cs:=[]) Try.mixed Try.func51 rfl (by kernel_rfl) 0 rfl rfl ?_
 simp only[Try.f51]
 (replace hb0:=true_and True);refine Go1.mk ?_;repeat' ((first|(with_reducible refine Go1.go ?_)|((with_reducible first|refine brv_mk ?_ ?_|refine gsplitD ?_ ?_|refine gsplitG ?_ ?_)<;>intro h<;>(try simp only[Bool.not_eq_true',Bool.not_eq_false']at h)<;>replace hb0:=h)|(((with_reducible refine isCall (f:=72) ?_);refine callA_nil (by kernel_rfl) ?_;refine (oidxW_ok hu hL hb (fun M3 r c1 c2=>Stop.mk ?_))))|(refine And.intro ?_ ?_;(try simp only[sxO]at *);omega)|fail)<;>(try simp (maxSteps:=1000000) only [hb0,hu.one,↓hold_pre,awayP,runOps,regK,step1,newK,genR,appR,obl,buildR,Value.cells,closeK,keepH,outV,retK,ret1,retC,RetV,Option.getD,runD,stepD,afterK,undef,simprocAttr,sxB,↓sxD,sxE,sxTab]))
 have hk:=hK M3 c1
 have c2:(r=-1∧L.all chkI=true)∨(0≤r∧L.all chkI=false):=by assumption
 refine Stop.go ?_
 rcases c2 with ⟨rfl,h⟩|⟨h1,h⟩
 ·rw[h]at hk
  (replace hb0:=true_and True);refine Go1.mk ?_;repeat' ((first|(with_reducible refine Go1.go ?_)|((with_reducible first|refine brv_mk ?_ ?_|refine gsplitD ?_ ?_|refine gsplitG ?_ ?_)<;>intro h<;>(try simp only[Bool.not_eq_true',Bool.not_eq_false']at h)<;>replace hb0:=h)|(refine And.intro ?_ ?_;(try simp only[sxO]at *);omega)|fail)<;>(try simp (maxSteps:=1000000) only [hb0,↓hold_pre,awayP,runOps,regK,step1,newK,genR,appR,obl,buildR,Value.cells,closeK,keepH,outV,retK,ret1,retC,RetV,Option.getD,runD,stepD,afterK,undef,simprocAttr,sxB,↓sxD,sxE,sxTab]))
  exact hk
 ·rw[h]at hk
  have d1:decide (0≤r)=true:=decide_eq_true h1
  (replace hb0:=true_and True);refine Go1.mk ?_;repeat' ((first|(with_reducible refine Go1.go ?_)|((with_reducible first|refine brv_mk ?_ ?_|refine gsplitD ?_ ?_|refine gsplitG ?_ ?_)<;>intro h<;>(try simp only[Bool.not_eq_true',Bool.not_eq_false']at h)<;>replace hb0:=h)|(refine And.intro ?_ ?_;(try simp only[sxO]at *);omega)|fail)<;>(try simp (maxSteps:=1000000) only [hb0,d1,↓hold_pre,awayP,runOps,regK,step1,newK,genR,appR,obl,buildR,Value.cells,closeK,keepH,outV,retK,ret1,retC,RetV,Option.getD,runD,stepD,afterK,undef,simprocAttr,sxB,↓sxD,sxE,sxTab]))
  exact hk
theorem ocheckW_ok(hu:IsR M 5 IR.c u L)(hL:okILw M L)(hb:L.length<1000000)(hK:∀M',Mem.le M M'→K (.ext (.bool (chkIL L))) [] M'):CallS Try.prog 28 [.ext u] [] M [] K:=by
 refine inlS (cs:=[]) Try.mixed Try.func28 rfl (by kernel_rfl) 0 rfl rfl ?_
 simp only[Try.f28]
 unfold chkIL at hK
 by_cases h64:L.length≤64
 ·have d1:decide ((64:Int)<(L.length:Int))=false:=by rw[decide_eq_false_iff_not];omega
  rw[decide_eq_true h64]at hK
  (replace hb0:=true_and True);refine Go1.mk ?_;repeat' ((first|(with_reducible refine Go1.go ?_)|((with_reducible first|refine brv_mk ?_ ?_|refine gsplitD ?_ ?_|refine gsplitG ?_ ?_)<;>intro h<;>(try simp only[Bool.not_eq_true',Bool.not_eq_false']at h)<;>replace hb0:=h)|(((with_reducible refine isCall (f:=51) ?_);refine callA_nil (by kernel_rfl) ?_;refine (ocontW_ok hu hL hb (fun M3 c1=>Stop.mk ?_))))|(refine And.intro ?_ ?_;(try simp only[sxO]at *);omega)|fail)<;>(try simp (maxSteps:=1000000) only [hb0,hu.one,hu.len,hu.sl,d1,↓hold_pre,awayP,runOps,regK,step1,newK,genR,appR,obl,buildR,Value.cells,closeK,keepH,outV,retK,ret1,retC,RetV,Option.getD,runD,stepD,afterK,undef,simprocAttr,sxB,↓sxD,sxE,sxTab]))
  have hk:=hK M3 c1
  refine Stop.go ?_
  cases hc:L.all chkI with
  | true=>
   rw[hc]at hk
   (replace hb0:=true_and True);refine Go1.mk ?_;repeat' ((first|(with_reducible refine Go1.go ?_)|((with_reducible first|refine brv_mk ?_ ?_|refine gsplitD ?_ ?_|refine gsplitG ?_ ?_)<;>intro h<;>(try simp only[Bool.not_eq_true',Bool.not_eq_false']at h)<;>replace hb0:=h)|(refine And.intro ?_ ?_;(try simp only[sxO]at *);omega)|fail)<;>(try simp (maxSteps:=1000000) only [hb0,↓hold_pre,awayP,runOps,regK,step1,newK,genR,appR,obl,buildR,Value.cells,closeK,keepH,outV,retK,ret1,retC,RetV,Option.getD,runD,stepD,afterK,undef,simprocAttr,sxB,↓sxD,sxE,sxTab]))
   exact hk
  | false=>
   rw[hc]at hk
   (replace hb0:=true_and True);refine Go1.mk ?_;repeat' ((first|(with_reducible refine Go1.go ?_)|((with_reducible first|refine brv_mk ?_ ?_|refine gsplitD ?_ ?_|refine gsplitG ?_ ?_)<;>intro h<;>(try simp only[Bool.not_eq_true',Bool.not_eq_false']at h)<;>replace hb0:=h)|(refine And.intro ?_ ?_;(try simp only[sxO]at *);omega)|fail)<;>(try simp (maxSteps:=1000000) only [hb0,↓hold_pre,awayP,runOps,regK,step1,newK,genR,appR,obl,buildR,Value.cells,closeK,keepH,outV,retK,ret1,retC,RetV,Option.getD,runD,stepD,afterK,undef,simprocAttr,sxB,↓sxD,sxE,sxTab]))
   exact hk
 ·have d1:decide ((64:Int)<(L.length:Int))=true:=by rw[decide_eq_true_eq];omega
  rw[decide_eq_false h64]at hK
  have hk:=hK M (Mem.le.refl _)
  (replace hb0:=true_and True);refine Go1.mk ?_;repeat' ((first|(with_reducible refine Go1.go ?_)|((with_reducible first|refine brv_mk ?_ ?_|refine gsplitD ?_ ?_|refine gsplitG ?_ ?_)<;>intro h<;>(try simp only[Bool.not_eq_true',Bool.not_eq_false']at h)<;>replace hb0:=h)|(refine And.intro ?_ ?_;(try simp only[sxO]at *);omega)|fail)<;>(try simp (maxSteps:=1000000) only [hb0,hu.one,hu.len,hu.sl,d1,↓hold_pre,awayP,runOps,regK,step1,newK,genR,appR,obl,buildR,Value.cells,closeK,keepH,outV,retK,ret1,retC,RetV,Option.getD,runD,stepD,afterK,undef,simprocAttr,sxB,↓sxD,sxE,sxTab]))
  exact hk
theorem rcheck29W_ok(hu:IsR M 5 IR.c u L)(hL:okILw M L)(hb:L.length<1000000)(hK:∀M',Mem.le M M'→K (.ext (.bool (chkIL L))) [] M'):CallS Try.prog 26 [.ext u] [] M [] K:=by
 refine inlS (cs:=[]) Try.mixed Try.func26 rfl (by kernel_rfl) 0 rfl rfl ?_
 simp only[Try.f26]
 unfold chkIL at hK
 by_cases h64:L.length≤64
 case neg=>
  have d1:decide ((64:Int)<(L.length:Int))=true:=by rw[decide_eq_true_eq];omega
  rw[decide_eq_false h64]at hK
  have hk:=hK M (Mem.le.refl _)
  (replace hb0:=true_and True);refine Go1.mk ?_;repeat' ((first|(with_reducible refine Go1.go ?_)|((with_reducible first|refine brv_mk ?_ ?_|refine gsplitD ?_ ?_|refine gsplitG ?_ ?_)<;>intro h<;>(try simp only[Bool.not_eq_true',Bool.not_eq_false']at h)<;>replace hb0:=h)|(refine And.intro ?_ ?_;(try simp only[sxO]at *);omega)|fail)<;>(try simp (maxSteps:=1000000) only [hb0,hu.one,hu.len,hu.sl,d1,↓hold_pre,awayP,runOps,regK,step1,newK,genR,appR,obl,buildR,Value.cells,closeK,keepH,outV,retK,ret1,retC,RetV,Option.getD,runD,stepD,afterK,undef,simprocAttr,sxB,↓sxD,sxE,sxTab]))
  exact hk
 have d1:decide ((64:Int)<(L.length:Int))=false:=by rw[decide_eq_false_iff_not];omega
 rw[decide_eq_true h64,Bool.true_and]at hK
 (replace hb0:=true_and True);refine Go1.mk ?_;repeat' ((first|(with_reducible refine Go1.go ?_)|((with_reducible first|refine brv_mk ?_ ?_|refine gsplitD ?_ ?_|refine gsplitG ?_ ?_)<;>intro h<;>(try simp only[Bool.not_eq_true',Bool.not_eq_false']at h)<;>replace hb0:=h)|(refine And.intro ?_ ?_;(try simp only[sxO]at *);omega)|fail)<;>(try simp (maxSteps:=1000000) only [hb0,hu.one,hu.len,hu.sl,d1,↓hold_pre,awayP,runOps,regK,step1,newK,genR,appR,obl,buildR,Value.cells,closeK,keepH,outV,retK,ret1,retC,RetV,Option.getD,runD,stepD,afterK,undef,simprocAttr,sxB,↓sxD,sxE,sxTab]))
 refine ⟨fun m z=>∃M' i,m=L.length-i∧i≤L.length∧Mem.le M M'∧(∀x∈L.take i,chkI x=true)∧z=rcSt29 M' u i,
  ⟨L.length,rcSt29 M u 0,le_sub ⟨rfl,rfl,trivial⟩ trivial rfl rfl rfl (keepLt0 _),⟨M,0,by omega,by omega,Mem.le.refl _,by simp,rfl⟩⟩,?_⟩
 rintro m z ⟨M2,i,rfl,hi,hM,hp,rfl⟩
 have hu2:=hu.le hM
 have hL2:=hL.le hM
 by_cases hlt:i<L.length
 case neg=>
  obtain rfl:i=L.length:=by omega
  have e1:decide ((L.length:Int)<(L.length:Int))=false:=by simp
  have hk:=hK M2 hM
  rw[List.take_of_length_le (Nat.le_refl _)]at hp
  rw[List.all_eq_true.2 hp]at hk
  (replace hb0:=true_and True);refine Go1.mk ?_;repeat' ((first|(with_reducible refine Go1.go ?_)|((with_reducible first|refine brv_mk ?_ ?_|refine gsplitD ?_ ?_|refine gsplitG ?_ ?_)<;>intro h<;>(try simp only[Bool.not_eq_true',Bool.not_eq_false']at h)<;>replace hb0:=h)|(refine And.intro ?_ ?_;(try simp only[sxO]at *);omega)|fail)<;>(try simp (maxSteps:=1000000) only [hb0,rcSt29,hu2.one,hu2.len,hu2.sl,e1,↓hold_pre,awayP,runOps,regK,step1,newK,genR,appR,obl,buildR,Value.cells,closeK,keepH,outV,retK,ret1,retC,RetV,Option.getD,runD,stepD,afterK,undef,simprocAttr,sxB,↓sxD,sxE,sxTab]))
  exact hk
 have e1:decide ((i:Int)<(L.length:Int))=true:=by rw[decide_eq_true_eq];omega
 have b1:(0:Int)≤(i:Int):=by omega
 have b2:(i:Int)<(L.length:Int):=by omega
 have hnn:=hu2.nn hlt
 have p1:=hu2.pt hlt
 have hac:=hu2.part (P:=Try.prog) (fun _=>rfl) tk34 tz34 (o:=2) hlt (by decide)
 have hmem:=List.getElem_mem hlt
 have hF:=hL2 _ hmem
 have hnx:chkI L[i]=true→∀x∈L.take (i+1),chkI x=true:=fun hx x hm=>by
  rw[List.take_add_one,List.getElem?_eq_getElem hlt]at hm
  rcases List.mem_append.1 hm with h1|h1
  ·exact hp x h1
  ·have:x=L[i]:=by simpa using h1
   rw[this];exact hx
 have wi:IntKind.i64.wrap ((i:Int)+1)=((i+1:Nat):Int):=succ_i (by omega)
 have hall:chkI L[i]=false→L.all chkI=false:=fun hc=>by
  cases h:L.all chkI with
  | false=>rfl
  | true=>rw[List.all_eq_true.1 h _ hmem]at hc;cases hc
 have hfx:=fun M3 (h:Mem.le M2 M3)=>(hu2.le h).atF (P:=Try.prog) (T:=32) (fun _=>rfl) tk32 tz32 hlt (o:=2) (v:=L[i].u1) rfl
 have hfy:=fun M3 (h:Mem.le M2 M3)=>(hu2.le h).atF (P:=Try.prog) (T:=32) (fun _=>rfl) tk32 tz32 hlt (o:=3) (v:=L[i].u2) rfl
 have hfz:=fun M3 (h:Mem.le M2 M3)=>(hu2.le h).atF (P:=Try.prog) (T:=3) (fun _=>rfl) tk3 tz3 hlt (o:=4) (v:=.int .i64 L[i].cost) rfl
 generalize L[i]=x at *
 obtain ⟨pk,ts,x1,x2,y1,y2,co⟩:=x
 have hac:lookM Try.prog 34 M2 (addP (elemP u 5 i) 2)=some (.agg #[x1,x2]):=hac
 have hF1:IsFw M2 x1 x2 y1 y2:=hF.f
 simp only at hfx hfy hfz
 cases hc:chkF y1 y2 with
 | false=>
  (replace hb0:=true_and True);refine Go1.mk ?_;repeat' ((first|(with_reducible refine Go1.go ?_)|((with_reducible first|refine brv_mk ?_ ?_|refine gsplitD ?_ ?_|refine gsplitG ?_ ?_)<;>intro h<;>(try simp only[Bool.not_eq_true',Bool.not_eq_false']at h)<;>replace hb0:=h)|(((with_reducible refine isCall (f:=50) ?_);refine callA_nil (by kernel_rfl) ?_;refine (rfcheckW_ok hF1 (fun M3 c1=>Stop.mk ?_))))|(refine And.intro ?_ ?_;(try simp only[sxO]at *);omega)|fail)<;>(try simp (maxSteps:=1000000) only [hb0,rcSt29,hu2.one,hu2.len,hu2.sl,hnn,p1,e1,b1,b2,hac,hF1.n.one,hF1.d.one,hc,↓hold_pre,awayP,runOps,regK,step1,newK,genR,appR,obl,buildR,Value.cells,closeK,keepH,outV,retK,ret1,retC,RetV,Option.getD,runD,stepD,afterK,undef,simprocAttr,sxB,↓sxD,sxE,sxTab]))
  have hk:=hK M3 (hM.trans c1)
  rw[hall (by unfold chkI;simp only;rw[hc];rfl)]at hk
  have hu3:=hu2.le c1
  refine Stop.go ?_
  (replace hb0:=true_and True);refine Go1.mk ?_;repeat' ((first|(with_reducible refine Go1.go ?_)|((with_reducible first|refine brv_mk ?_ ?_|refine gsplitD ?_ ?_|refine gsplitG ?_ ?_)<;>intro h<;>(try simp only[Bool.not_eq_true',Bool.not_eq_false']at h)<;>replace hb0:=h)|(refine And.intro ?_ ?_;(try simp only[sxO]at *);omega)|fail)<;>(try simp (maxSteps:=1000000) only [hb0,hu3.one,hu3.len,hu3.sl,hnn,p1,e1,b1,b2,hF1.n.one,hF1.d.one,hc,↓hold_pre,awayP,runOps,regK,step1,newK,genR,appR,obl,buildR,Value.cells,closeK,keepH,outV,retK,ret1,retC,RetV,Option.getD,runD,stepD,afterK,undef,simprocAttr,sxB,↓sxD,sxE,sxTab]))
  exact hk
 | true=>
  (replace hb0:=true_and True);refine Go1.mk ?_;repeat' ((first|(with_reducible refine Go1.go ?_)|((with_reducible first|refine brv_mk ?_ ?_|refine gsplitD ?_ ?_|refine gsplitG ?_ ?_)<;>intro h<;>(try simp only[Bool.not_eq_true',Bool.not_eq_false']at h)<;>replace hb0:=h)|(((with_reducible refine isCall (f:=50) ?_);refine callA_nil (by kernel_rfl) ?_;refine (rfcheckW_ok hF1 (fun M3 c1=>Stop.mk ?_))))|(refine And.intro ?_ ?_;(try simp only[sxO]at *);omega)|fail)<;>(try simp (maxSteps:=1000000) only [hb0,rcSt29,hu2.one,hu2.len,hu2.sl,hnn,p1,e1,b1,b2,hac,hF1.n.one,hF1.d.one,hc,↓hold_pre,awayP,runOps,regK,step1,newK,genR,appR,obl,buildR,Value.cells,closeK,keepH,outV,retK,ret1,retC,RetV,Option.getD,runD,stepD,afterK,undef,simprocAttr,sxB,↓sxD,sxE,sxTab]))
  have c1:Mem.le M2 M3:=c1
  have hu3:=hu2.le c1
  have hF3:=hF1.le c1
  have g3:=hfz M3 c1
  have p2:=isPt_add 2 p1
  have p3:addP (addP (elemP u 5 i) 2) 0=addP (elemP u 5 i) 2:=addP_addP 2 0 p1
  have p4:addP (addP (elemP u 5 i) 2) 1=addP (elemP u 5 i) 3:=addP_addP 2 1 p1
  have g1:=hfx M3 c1
  have g2:=hfy M3 c1
  rw[←p3]at g1
  rw[←p4]at g2
  by_cases h0:y1.length≤1
  case neg=>
   have d0:decide ((1:Int)<(y1.length:Int))=true:=by rw[decide_eq_true_eq];omega
   have q0:decide (y1.length≤1)=false:=decide_eq_false h0
   have hk:=hK M3 (hM.trans c1)
   rw[hall (by unfold chkI;simp only;rw[hc,q0];simp)]at hk
   refine Stop.go ?_
   (replace hb0:=true_and True);refine Go1.mk ?_;repeat' ((first|(with_reducible refine Go1.go ?_)|((with_reducible first|refine brv_mk ?_ ?_|refine gsplitD ?_ ?_|refine gsplitG ?_ ?_)<;>intro h<;>(try simp only[Bool.not_eq_true',Bool.not_eq_false']at h)<;>replace hb0:=h)|(refine And.intro ?_ ?_;(try simp only[sxO]at *);omega)|fail)<;>(try simp (maxSteps:=1000000) only [hb0,hu3.one,hu3.len,hu3.sl,hnn,p1,p2,e1,b1,b2,hF3.n.one,hF3.d.one,hc,hF3.n.len,hF3.n.sl,hF3.d.len,hF3.d.sl,g1,g2,g3,d0,↓hold_pre,awayP,runOps,regK,step1,newK,genR,appR,obl,buildR,Value.cells,closeK,keepH,outV,retK,ret1,retC,RetV,Option.getD,runD,stepD,afterK,undef,simprocAttr,sxB,↓sxD,sxE,sxTab]))
   exact hk
  have d0:decide ((1:Int)<(y1.length:Int))=false:=by rw[decide_eq_false_iff_not];omega
  have q0:decide (y1.length≤1)=true:=decide_eq_true h0
  by_cases h1:y2.length≤1
  case neg=>
   have d1:decide ((1:Int)<(y2.length:Int))=true:=by rw[decide_eq_true_eq];omega
   have q1:decide (y2.length≤1)=false:=decide_eq_false h1
   have hk:=hK M3 (hM.trans c1)
   rw[hall (by unfold chkI;simp only;rw[hc,q1];simp)]at hk
   refine Stop.go ?_
   (replace hb0:=true_and True);refine Go1.mk ?_;repeat' ((first|(with_reducible refine Go1.go ?_)|((with_reducible first|refine brv_mk ?_ ?_|refine gsplitD ?_ ?_|refine gsplitG ?_ ?_)<;>intro h<;>(try simp only[Bool.not_eq_true',Bool.not_eq_false']at h)<;>replace hb0:=h)|(refine And.intro ?_ ?_;(try simp only[sxO]at *);omega)|fail)<;>(try simp (maxSteps:=1000000) only [hb0,hu3.one,hu3.len,hu3.sl,hnn,p1,p2,e1,b1,b2,hF3.n.one,hF3.d.one,hc,hF3.n.len,hF3.n.sl,hF3.d.len,hF3.d.sl,g1,g2,g3,d0,d1,↓hold_pre,awayP,runOps,regK,step1,newK,genR,appR,obl,buildR,Value.cells,closeK,keepH,outV,retK,ret1,retC,RetV,Option.getD,runD,stepD,afterK,undef,simprocAttr,sxB,↓sxD,sxE,sxTab]))
   exact hk
  have d1:decide ((1:Int)<(y2.length:Int))=false:=by rw[decide_eq_false_iff_not];omega
  have q1:decide (y2.length≤1)=true:=decide_eq_true h1
  by_cases h2:1≤co
  case neg=>
   have d2:decide (co<1)=true:=by rw[decide_eq_true_eq];omega
   have q2:decide (1≤co)=false:=decide_eq_false h2
   have hk:=hK M3 (hM.trans c1)
   rw[hall (by unfold chkI;simp only;rw[hc,q2];simp)]at hk
   refine Stop.go ?_
   (replace hb0:=true_and True);refine Go1.mk ?_;repeat' ((first|(with_reducible refine Go1.go ?_)|((with_reducible first|refine brv_mk ?_ ?_|refine gsplitD ?_ ?_|refine gsplitG ?_ ?_)<;>intro h<;>(try simp only[Bool.not_eq_true',Bool.not_eq_false']at h)<;>replace hb0:=h)|(refine And.intro ?_ ?_;(try simp only[sxO]at *);omega)|fail)<;>(try simp (maxSteps:=1000000) only [hb0,hu3.one,hu3.len,hu3.sl,hnn,p1,p2,e1,b1,b2,hF3.n.one,hF3.d.one,hc,hF3.n.len,hF3.n.sl,hF3.d.len,hF3.d.sl,g1,g2,g3,d0,d1,d2,↓hold_pre,awayP,runOps,regK,step1,newK,genR,appR,obl,buildR,Value.cells,closeK,keepH,outV,retK,ret1,retC,RetV,Option.getD,runD,stepD,afterK,undef,simprocAttr,sxB,↓sxD,sxE,sxTab]))
   exact hk
  have d2:decide (co<1)=false:=by rw[decide_eq_false_iff_not];omega
  have q2:decide (1≤co)=true:=decide_eq_true h2
  by_cases h3:co≤1048576
  case neg=>
   have d3:decide ((1048576:Int)<co)=true:=by rw[decide_eq_true_eq];omega
   have q3:decide (co≤1048576)=false:=decide_eq_false h3
   have hk:=hK M3 (hM.trans c1)
   rw[hall (by unfold chkI;simp only;rw[hc,q3];simp)]at hk
   refine Stop.go ?_
   (replace hb0:=true_and True);refine Go1.mk ?_;repeat' ((first|(with_reducible refine Go1.go ?_)|((with_reducible first|refine brv_mk ?_ ?_|refine gsplitD ?_ ?_|refine gsplitG ?_ ?_)<;>intro h<;>(try simp only[Bool.not_eq_true',Bool.not_eq_false']at h)<;>replace hb0:=h)|(refine And.intro ?_ ?_;(try simp only[sxO]at *);omega)|fail)<;>(try simp (maxSteps:=1000000) only [hb0,hu3.one,hu3.len,hu3.sl,hnn,p1,p2,e1,b1,b2,hF3.n.one,hF3.d.one,hc,hF3.n.len,hF3.n.sl,hF3.d.len,hF3.d.sl,g1,g2,g3,d0,d1,d2,d3,↓hold_pre,awayP,runOps,regK,step1,newK,genR,appR,obl,buildR,Value.cells,closeK,keepH,outV,retK,ret1,retC,RetV,Option.getD,runD,stepD,afterK,undef,simprocAttr,sxB,↓sxD,sxE,sxTab]))
   exact hk
  have d3:decide ((1048576:Int)<co)=false:=by rw[decide_eq_false_iff_not];omega
  have q3:decide (co≤1048576)=true:=decide_eq_true h3
  have hnx:=hnx (by unfold chkI;simp only;rw[hc,q0,q1,q2,q3];rfl)
  refine Stop.go ?_
  (replace hb0:=true_and True);refine Go1.mk ?_;repeat' ((first|(with_reducible refine Go1.go ?_)|((with_reducible first|refine brv_mk ?_ ?_|refine gsplitD ?_ ?_|refine gsplitG ?_ ?_)<;>intro h<;>(try simp only[Bool.not_eq_true',Bool.not_eq_false']at h)<;>replace hb0:=h)|(refine And.intro ?_ ?_;(try simp only[sxO]at *);omega)|fail)<;>(try simp (maxSteps:=1000000) only [hb0,hu3.one,hu3.len,hu3.sl,hnn,p1,p2,e1,b1,b2,hF3.n.one,hF3.d.one,hc,hF3.n.len,hF3.n.sl,hF3.d.len,hF3.d.sl,g1,g2,g3,d0,d1,d2,d3,wi,↓hold_pre,awayP,runOps,regK,step1,newK,genR,appR,obl,buildR,Value.cells,closeK,keepH,outV,retK,ret1,retC,RetV,Option.getD,runD,stepD,afterK,undef,simprocAttr,sxB,↓sxD,sxE,sxTab]))
  exact ⟨L.length-(i+1),rcSt29 M3 u (i+1),by omega,le_sub ⟨rfl,rfl,trivial⟩ trivial rfl rfl rfl (keepLt0 _),M3,i+1,rfl,by omega,hM.trans c1,hnx,rfl⟩
theorem chkW(L:List IR):chkIL L=true∨chkIL L=false:=by cases chkIL L<;>simp
theorem orderW_ok(hu:IsR M 5 IR.c u L)(hL:okILw M L)(hb:L.length<1000000)(hK:∀v M',Mem.le M M'→v.oneCell'=true→K (.ext (.tuple #[v,.int .i64 (ordE L)])) [] M'):CallS Try.prog 11 [.ext u] [] M [] K:=by
 rcases chkW L with hc|hc
 ·exact order_ok hu (hL.small hc) hb fun v Z M1 m1 _ hv _=>hK v M1 m1 hv.one
 have hce:u.cells=#[u]:=cells_sl hu.sl
 unfold Value.cells at hce
 refine inlS (cs:=[]) Try.mixed Try.func11 rfl (by kernel_rfl) 0 rfl rfl ?_
 simp only[Try.f11]
 (replace hb0:=true_and True);refine Go1.mk ?_;repeat' ((first|(with_reducible refine Go1.go ?_)|((with_reducible first|refine brv_mk ?_ ?_|refine gsplitD ?_ ?_|refine gsplitG ?_ ?_)<;>intro h<;>(try simp only[Bool.not_eq_true',Bool.not_eq_false']at h)<;>replace hb0:=h)|(((with_reducible refine isCall (f:=28) ?_);refine callA_nil (by kernel_rfl) ?_;refine (ocheckW_ok hu hL hb (fun M1 m1=>Stop.mk ?_))))|(refine And.intro ?_ ?_;(try simp only[sxO]at *);omega)|fail)<;>(try simp (maxSteps:=1000000) only [hb0,hu.one,hce,↓hold_pre,awayP,runOps,regK,step1,newK,genR,appR,obl,buildR,Value.cells,closeK,keepH,outV,retK,ret1,retC,RetV,Option.getD,runD,stepD,afterK,undef,simprocAttr,sxB,↓sxD,sxE,sxTab]))
 have m1:Mem.le M M1:=m1
 have hk:=hK (.slice none 0 0) M1 m1 rfl
 unfold ordE at hk
 rw[hc]at hk
 rw[hc]
 refine Stop.go ?_
 (replace hb0:=true_and True);refine Go1.mk ?_;repeat' ((first|(with_reducible refine Go1.go ?_)|((with_reducible first|refine brv_mk ?_ ?_|refine gsplitD ?_ ?_|refine gsplitG ?_ ?_)<;>intro h<;>(try simp only[Bool.not_eq_true',Bool.not_eq_false']at h)<;>replace hb0:=h)|(refine And.intro ?_ ?_;(try simp only[sxO]at *);omega)|fail)<;>(try simp (maxSteps:=1000000) only [hb0,↓hold_pre,awayP,runOps,regK,step1,newK,genR,appR,obl,buildR,Value.cells,closeK,keepH,outV,retK,ret1,retC,RetV,Option.getD,runD,stepD,afterK,undef,simprocAttr,sxB,↓sxD,sxE,sxTab]))
 exact hk
end
section
variable {M:Mem}{K:AV→Hp→Mem→Prop}{u v:Value}{L:List IR}{o:List Int}
theorem ocheckOW_ok(hu:IsR M 5 IR.c u L)(hL:okILw M L)(hb:L.length<1000000)(hv:IsL M intV64 v o)(hb2:o.length<1000000)(hK:∀M',Mem.le M M'→K (.ext (.int .i64 (errO L o))) [] M'):CallS Try.prog 41 [.ext u,.ext v] [] M [] K:=by
 rcases chkW L with hc|hc
 ·exact ocheckO_ok hu (hL.small hc) hb hv hb2 hK
 refine inlS (cs:=[]) Try.mixed Try.func41 rfl (by kernel_rfl) 0 rfl rfl ?_
 simp only[Try.f41]
 (replace hb0:=true_and True);refine Go1.mk ?_;repeat' ((first|(with_reducible refine Go1.go ?_)|((with_reducible first|refine brv_mk ?_ ?_|refine gsplitD ?_ ?_|refine gsplitG ?_ ?_)<;>intro h<;>(try simp only[Bool.not_eq_true',Bool.not_eq_false']at h)<;>replace hb0:=h)|(((with_reducible refine isCall (f:=28) ?_);refine callA_nil (by kernel_rfl) ?_;refine (ocheckW_ok hu hL hb (fun M1 m1=>Stop.mk ?_))))|(refine And.intro ?_ ?_;(try simp only[sxO]at *);omega)|fail)<;>(try simp (maxSteps:=1000000) only [hb0,hu.one,hv.one,↓hold_pre,awayP,runOps,regK,step1,newK,genR,appR,obl,buildR,Value.cells,closeK,keepH,outV,retK,ret1,retC,RetV,Option.getD,runD,stepD,afterK,undef,simprocAttr,sxB,↓sxD,sxE,sxTab]))
 have hk:=hK M1 m1
 unfold errO at hk
 rw[hc]at hk
 rw[hc]
 refine Stop.go ?_
 (replace hb0:=true_and True);refine Go1.mk ?_;repeat' ((first|(with_reducible refine Go1.go ?_)|((with_reducible first|refine brv_mk ?_ ?_|refine gsplitD ?_ ?_|refine gsplitG ?_ ?_)<;>intro h<;>(try simp only[Bool.not_eq_true',Bool.not_eq_false']at h)<;>replace hb0:=h)|(refine And.intro ?_ ?_;(try simp only[sxO]at *);omega)|fail)<;>(try simp (maxSteps:=1000000) only [hb0,↓hold_pre,awayP,runOps,regK,step1,newK,genR,appR,obl,buildR,Value.cells,closeK,keepH,outV,retK,ret1,retC,RetV,Option.getD,runD,stepD,afterK,undef,simprocAttr,sxB,↓sxD,sxE,sxTab]))
 exact hk
def FrA(M:Mem)(K:AV→Hp→Mem→Prop)(e:Int):Prop:=∀w1 w2 M',Mem.le M M'→w1.oneCell'=true→w2.oneCell'=true→K (.ext (.tuple #[.agg #[w1,w2],.int .i64 e])) [] M'
theorem lossW_ok(hu:IsR M 5 IR.c u L)(hL:okILw M L)(hb:L.length<1000000)(hv:IsL M intV64 v o)(hb2:o.length<1000000)(hK:FrA M K (errO L o)):CallS Try.prog 12 [.ext u,.ext v] [] M [] K:=by
 rcases chkW L with hc|hc
 ·exact oloss_ok hu (hL.small hc) hb hv hb2 fun w1 w2 M1 m1 h1 h2 _ _=>hK w1 w2 M1 m1 h1.one h2.one
 have he:decide (errO L o=0)=false:=by simp[errO,hc]
 refine inlS (cs:=[]) Try.mixed Try.func12 rfl (by kernel_rfl) 0 rfl rfl ?_
 simp only[Try.f12]
 (replace hb0:=true_and True);refine Go1.mk ?_;repeat' ((first|(with_reducible refine Go1.go ?_)|((with_reducible first|refine brv_mk ?_ ?_|refine gsplitD ?_ ?_|refine gsplitG ?_ ?_)<;>intro h<;>(try simp only[Bool.not_eq_true',Bool.not_eq_false']at h)<;>replace hb0:=h)|(((with_reducible refine isCall (f:=41) ?_);refine callA_nil (by kernel_rfl) ?_;refine (ocheckOW_ok hu hL hb hv hb2 (fun M1 m1=>Stop.mk ?_))))|(refine And.intro ?_ ?_;(try simp only[sxO]at *);omega)|fail)<;>(try simp (maxSteps:=1000000) only [hb0,hu.one,hv.one,↓hold_pre,awayP,runOps,regK,step1,newK,genR,appR,obl,buildR,Value.cells,closeK,keepH,outV,retK,ret1,retC,RetV,Option.getD,runD,stepD,afterK,undef,simprocAttr,sxB,↓sxD,sxE,sxTab]))
 have hk:=hK (.slice none 0 0) (.slice none 0 0) M1 m1 rfl rfl
 refine Stop.go ?_
 (replace hb0:=true_and True);refine Go1.mk ?_;repeat' ((first|(with_reducible refine Go1.go ?_)|((with_reducible first|refine brv_mk ?_ ?_|refine gsplitD ?_ ?_|refine gsplitG ?_ ?_)<;>intro h<;>(try simp only[Bool.not_eq_true',Bool.not_eq_false']at h)<;>replace hb0:=h)|(refine And.intro ?_ ?_;(try simp only[sxO]at *);omega)|fail)<;>(try simp (maxSteps:=1000000) only [hb0,he,↓hold_pre,awayP,runOps,regK,step1,newK,genR,appR,obl,buildR,Value.cells,closeK,keepH,outV,retK,ret1,retC,RetV,Option.getD,runD,stepD,afterK,undef,simprocAttr,sxB,↓sxD,sxE,sxTab]))
 exact hk
theorem prefixW_ok(b:Int)(hu:IsR M 5 IR.c u L)(hL:okILw M L)(hb:L.length<1000000)(hv:IsL M intV64 v o)(hb2:o.length<1000000)(hc:chkIL L=false)(hK:∀M',Mem.le M M'→K (.ext (.tuple #[.int .i64 0,.int .i64 (errO L o)])) [] M'):CallS Try.prog 30 [.ext u,.ext v,.ext (.int .i64 b)] [] M [] K:=by
 have he:decide (errO L o=0)=false:=by simp[errO,hc]
 refine inlS (cs:=[]) Try.mixed Try.func30 rfl (by kernel_rfl) 0 rfl rfl ?_
 simp only[Try.f30]
 (replace hb0:=true_and True);refine Go1.mk ?_;repeat' ((first|(with_reducible refine Go1.go ?_)|((with_reducible first|refine brv_mk ?_ ?_|refine gsplitD ?_ ?_|refine gsplitG ?_ ?_)<;>intro h<;>(try simp only[Bool.not_eq_true',Bool.not_eq_false']at h)<;>replace hb0:=h)|(((with_reducible refine isCall (f:=41) ?_);refine callA_nil (by kernel_rfl) ?_;refine (ocheckOW_ok hu hL hb hv hb2 (fun M1 m1=>Stop.mk ?_))))|(refine And.intro ?_ ?_;(try simp only[sxO]at *);omega)|fail)<;>(try simp (maxSteps:=1000000) only [hb0,hu.one,hv.one,↓hold_pre,awayP,runOps,regK,step1,newK,genR,appR,obl,buildR,Value.cells,closeK,keepH,outV,retK,ret1,retC,RetV,Option.getD,runD,stepD,afterK,undef,simprocAttr,sxB,↓sxD,sxE,sxTab]))
 have hk:=hK M1 m1
 refine Stop.go ?_
 (replace hb0:=true_and True);refine Go1.mk ?_;repeat' ((first|(with_reducible refine Go1.go ?_)|((with_reducible first|refine brv_mk ?_ ?_|refine gsplitD ?_ ?_|refine gsplitG ?_ ?_)<;>intro h<;>(try simp only[Bool.not_eq_true',Bool.not_eq_false']at h)<;>replace hb0:=h)|(refine And.intro ?_ ?_;(try simp only[sxO]at *);omega)|fail)<;>(try simp (maxSteps:=1000000) only [hb0,he,↓hold_pre,awayP,runOps,regK,step1,newK,genR,appR,obl,buildR,Value.cells,closeK,keepH,outV,retK,ret1,retC,RetV,Option.getD,runD,stepD,afterK,undef,simprocAttr,sxB,↓sxD,sxE,sxTab]))
 exact hk
theorem foundW_ok(b:Int)(hu:IsR M 5 IR.c u L)(hL:okILw M L)(hb:L.length<1000000)(hv:IsL M intV64 v o)(hb2:o.length<1000000)(hK:FrA M K (errO L o)):CallS Try.prog 27 [.ext u,.ext v,.ext (.int .i64 b)] [] M [] K:=by
 rcases chkW L with hc|hc
 ·exact ofound_ok b hu (hL.small hc) hb hv hb2 fun w1 w2 M1 m1 h1 h2 _ _=>hK w1 w2 M1 m1 h1.one h2.one
 have he:decide (errO L o=0)=false:=by simp[errO,hc]
 refine inlS (cs:=[]) Try.mixed Try.func27 rfl (by kernel_rfl) 0 rfl rfl ?_
 simp only[Try.f27]
 (replace hb0:=true_and True);refine Go1.mk ?_;repeat' ((first|(with_reducible refine Go1.go ?_)|((with_reducible first|refine brv_mk ?_ ?_|refine gsplitD ?_ ?_|refine gsplitG ?_ ?_)<;>intro h<;>(try simp only[Bool.not_eq_true',Bool.not_eq_false']at h)<;>replace hb0:=h)|(((with_reducible refine isCall (f:=30) ?_);refine callA_nil (by kernel_rfl) ?_;refine (prefixW_ok b hu hL hb hv hb2 hc (fun M1 m1=>Stop.mk ?_))))|(refine And.intro ?_ ?_;(try simp only[sxO]at *);omega)|fail)<;>(try simp (maxSteps:=1000000) only [hb0,hu.one,hv.one,↓hold_pre,awayP,runOps,regK,step1,newK,genR,appR,obl,buildR,Value.cells,closeK,keepH,outV,retK,ret1,retC,RetV,Option.getD,runD,stepD,afterK,undef,simprocAttr,sxB,↓sxD,sxE,sxTab]))
 have hk:=hK (.slice none 0 0) (.slice none 0 0) M1 m1 rfl rfl
 refine Stop.go ?_
 (replace hb0:=true_and True);refine Go1.mk ?_;repeat' ((first|(with_reducible refine Go1.go ?_)|((with_reducible first|refine brv_mk ?_ ?_|refine gsplitD ?_ ?_|refine gsplitG ?_ ?_)<;>intro h<;>(try simp only[Bool.not_eq_true',Bool.not_eq_false']at h)<;>replace hb0:=h)|(refine And.intro ?_ ?_;(try simp only[sxO]at *);omega)|fail)<;>(try simp (maxSteps:=1000000) only [hb0,he,↓hold_pre,awayP,runOps,regK,step1,newK,genR,appR,obl,buildR,Value.cells,closeK,keepH,outV,retK,ret1,retC,RetV,Option.getD,runD,stepD,afterK,undef,simprocAttr,sxB,↓sxD,sxE,sxTab]))
 exact hk
end
end Go.Proofs.Ytjapnklocibgaaa.Sx
namespace Go.Proofs.Ytjapnklocibgaaa.Sx
open Go
set_option maxRecDepth 100000
set_option linter.unusedVariables false
def cA(L:List IR)(x:Int):Nat:=(costA L x).toNat
def toI(Z:List Nat):List Int:=Z.map fun (x:Nat)=>(x:Int)
theorem slops_hi(a b:Operand):(#[a]++(none:Option Operand).toArray++(some b).toArray++(none:Option Operand).toArray).toList=[a,b]:=rfl
theorem slops_lo(a b:Operand):(#[a]++(some b).toArray++(none:Option Operand).toArray++(none:Option Operand).toArray).toList=[a,b]:=rfl
theorem ins_perm{Z:List Nat}{i:Nat}(a:Nat)(h:Z.Perm (List.range i)):(Z.take a++i :: Z.drop a).Perm (List.range (i+1)):=by
 rw[List.range_succ]
 refine List.perm_middle.trans ?_
 rw[List.take_append_drop]
 exact (h.cons i).trans (List.perm_append_singleton i (List.range i)).symm
structure Scaled (f g:Nat) (x y:IR):Prop where
 pk:y.pk=x.pk
 ts:y.ts=x.ts
 cost:y.cost=x.cost
 val:valN y.l1*(valN x.l2*g)=valN x.l1*f*valN y.l2
 pos:0<valN y.l2
end Go.Proofs.Ytjapnklocibgaaa.Sx
namespace Go.Proofs.Ytjapnklocibgaaa.Sx
open Go Go.RowKit
set_option linter.unusedVariables false
set_option linter.unusedSimpArgs false
set_option maxRecDepth 100000
set_option maxHeartbeats 8000000
attribute [local congr] fin_congr finG_congr stepG_congr step1_congr runOps_congr brv_congr obl_congr condK_congr LoopK_congr seqK_congr CutK_congr vc_congr DrawK_congr regK_congr CallK_congr AskK_congr newK_congr retC_congr ret1_congr retK_congr outV_congr closeK_congr genR_congr appR_congr finD_congr finGD_congr stepGD_congr stepD_congr CallK0_congr runD_congr okR_congr CallS_congr vcX_congr
attribute [local congr] Stop_congr
section
variable {M:Mem}{K:AV→Hp→Mem→Prop}
def shSt31(M:Mem)(u:Value)(p N i:Nat)(Z:List Nat):St:={env:=[(6,.ext (.int .i64 (i:Int))),(5,.slo 1000005 0 i 1),(1,.ext (.int .i64 (N:Int))),(0,.own 31 0)],hp:=[(1000005,3,cE natV Z),(31,25,[.ext u,.ext (.int .i64 (p:Int))])],M:=M,kb:=1000000,fx:=[31]}
theorem shuf31_ok(u:Value)(l:List Int)(p N:Nat)(hu:IsL M intV64 u l)(hp:p<100000)(hN:N<1000)(hK:∀v Z M',Mem.le M M'→Z.Perm (List.range N)→IsL M' intV64 v (toI Z)→FreshS M v→K (.ext v) [(31,25,[.ext u,.ext (.int .i64 ((p+N:Nat):Int))])] M') :
  CallS Try.prog 13 [.own 31 0,.ext (.int .i64 (N:Int))] [(31,25,[.ext u,.ext (.int .i64 (p:Int))])] M [] K:=by
 refine CallS.frzF ?_
 refine inlS (cs:=[]) Try.mixed Try.func13 rfl (by kernel_rfl) 1000000 rfl rfl ?_
 simp only[Try.f13]
 refine Go1.mk ?_;repeat' ((first|(with_reducible refine Go1.go ?_)|(refine And.intro ?_ ?_;(try simp only[sxO]at *);omega)|fail)<;>(try simp (maxSteps:=1000000) only [hasK_nil,hu.one,↓hold_pre,awayP,runOps,regK,step1,newK,genR,appR,obl,buildR,Value.cells,closeK,keepH,outV,retK,ret1,retC,RetV,Option.getD,runD,stepD,afterK,undef,simprocAttr,sxB,↓sxD,sxE,sxTab]))
 refine ⟨fun d z=>∃Z i,d=N-i∧i≤N∧Z.Perm (List.range i)∧z=shSt31 M u (p+i) N i Z,
  ⟨N,shSt31 M u p N 0 [],(le_nil 5 1000005 3 1 rfl (.inl (by simp[awayB,mentE,mentH,mentL,AV.ment,hasK]))).trans (le_sub ⟨rfl,rfl,rfl,rfl,trivial⟩ ⟨by simp[lkH,shSt31,cE],by simp[lkH,shSt31],trivial⟩ rfl rfl rfl (by simp[keepLt,shSt31,lkH])),⟨[],0,by omega,by omega,List.Perm.refl _,rfl⟩⟩,?_⟩
 rintro d z ⟨Z,i,rfl,hi,hZ,rfl⟩
 have hZl:Z.length=i:=by rw[hZ.length_eq,List.length_range]
 have hlen:(cE natV Z).length=i:=by rw[cE_len,hZl]
 by_cases hlt:i<N
 case neg=>
  obtain rfl:i=N:=by omega
  have d1:decide ((i:Int)<(i:Int))=false:=by simp
  refine Go1.mk ?_;repeat' ((first|(with_reducible refine Go1.go ?_)|(refine And.intro ?_ ?_;(try simp only[sxO]at *);omega)|fail)<;>(try simp (maxSteps:=1000000) only [shSt31,d1,cE_ment,cE_kill,hasK_nil,hu.one,↓hold_pre,awayP,runOps,regK,step1,newK,genR,appR,obl,buildR,Value.cells,closeK,keepH,outV,retK,ret1,retC,RetV,Option.getD,runD,stepD,afterK,undef,simprocAttr,sxB,↓sxD,sxE,sxTab]))
  refine FrzF.keep (Z.map natV) rfl (by rw[List.length_map,hZl]) (by simp[mentH,mentL,AV.ment,hasK]) rfl fun v M3 h1 h2 h3=>hK v Z M3 h1 hZ ?_ h3
  rw[←hZl,←List.length_map (f:=natV)]at h2
  exact IsL.nat (l:=Z) (by rw[List.length_map]at h2;exact h2)
 have d1:decide ((i:Int)<(N:Int))=true:=by rw[decide_eq_true_eq];omega
 have hw:IntKind.i64.wrap ((i:Int)+1)=((i+1:Nat):Int):=succ_i (by omega)
 refine Go1.mk ?_;repeat' ((first|(with_reducible refine Go1.go ?_)|((with_reducible refine isCall (f:=18) ?_);refine callA ?_)|((with_reducible refine isCallS (f:=18) ?_);refine (nextI_ok 31 u l (p+i) ((i+1:Nat):Int) hu (by omega) (by omega) (by omega) (fun x hx0 hx1=>Stop.mk ?_)))|(refine And.intro ?_ ?_;(try simp only[sxO]at *);omega)|fail)<;>(try simp (maxSteps:=1000000) only [shSt31,d1,hw,cE_ment,cE_kill,hasK_nil,hu.one,↓hold_pre,awayP,runOps,regK,step1,newK,genR,appR,obl,buildR,Value.cells,closeK,keepH,outV,retK,ret1,retC,RetV,Option.getD,runD,stepD,afterK,undef,simprocAttr,sxB,↓sxD,sxE,sxTab]))
 obtain ⟨a,rfl⟩:=Int.eq_ofNat_of_zero_le hx0
 have ha:a≤i:=by omega
 have b2:(a:Int)≤(i:Int):=by omega
 have b3:(0:Int)≤(a:Int):=by omega
 have b4:(0:Int)≤(i:Int):=by omega
 have hnew:cE natV (Z.take a)++AV.ext (.int .i64 (i:Int)) :: cE natV ((Z.drop a).take (i-a))=cE natV (Z.take a++i :: Z.drop a):=by
  rw[List.take_of_length_le (l:=Z.drop a) (by rw[List.length_drop];omega)]
  simp[cE,natV]
 have hsum:a+(1+(i-a))=i+1:=by omega
 have hdl:((Z.drop a).take (i-a)).length=i-a:=by rw[List.length_take,List.length_drop];omega
 have htw:List.take (1+(i-a)) (AV.ext (.int .i64 (i:Int)) :: cE natV ((Z.drop a).take (i-a)))=AV.ext (.int .i64 (i:Int)) :: cE natV ((Z.drop a).take (i-a)):=List.take_of_length_le (by rw[List.length_cons,cE_len,hdl];omega)
 have hso:1+(i-a)≤i-a+1:=by omega
 have hz2:=ins_perm a hZ
 have hao:=fun l=>eq_true (allOne_cE natV (fun _=>rfl) l)
 refine Stop.go ?_
 refine Go1.mk ?_;repeat' ((first|(with_reducible refine Go1.go ?_)|((with_reducible refine isDraw [some 17,some 18,some 19,some 20,some 21,some 22,some 23,some 24,some 25,some 26,some 5] (by decide) ?_);refine draw_rule [(0,[]),(1,[]),(2,[]),(3,[2]),(4,[2]),(5,[2]),(6,[2]),(7,[2]),(8,[0,1,2]),(9,[]),(10,[])] [[],[],[0,1],[],[3],[],[],[5,6],[3,4,5,6,7],[0,1,2,3,4,5,6,7,8],[0,1,2,3,4,5,6,7,8,9]] [17,18,19,20,21,22,23,24,25] [] (by kernel_rfl) (by kernel_rfl) (by kernel_rfl) (by kernel_rfl) (by exact trivial) ?_)|(refine And.intro ?_ ?_;(try simp only[sxO]at *);omega)|fail)<;>(try simp (maxSteps:=1000000) only [hw,hnew,hsum,hdl,htw,hso,slops_hi,slops_lo,hlen,hao,b2,b3,b4,cE_len,cE_take,cE_drop,cE_ment,cE_kill,hasK_nil,Nat.mul_one,Nat.zero_add,Nat.sub_zero,hu.one,Int.toNat_natCast,Int.toNat_zero,↓hold_pre,awayP,runOps,regK,step1,newK,genR,appR,obl,buildR,Value.cells,closeK,keepH,outV,retK,ret1,retC,RetV,Option.getD,runD,stepD,afterK,undef,simprocAttr,sxB,↓sxD,sxE,sxTab]))
 exact ⟨N-(i+1),shSt31 M u (p+(i+1)) N (i+1) (Z.take a++i :: Z.drop a),by omega,le_sub ⟨rfl,rfl,rfl,rfl,trivial⟩ ⟨by simp[lkH,shSt31],by simp[lkH,shSt31];omega,trivial⟩ rfl rfl rfl (by simp[keepLt,shSt31,lkH]),_,i+1,rfl,by omega,hz2,rfl⟩
end
section
variable {M:Mem}{K:AV→Hp→Mem→Prop}
theorem kno_ok{M:Mem}{w1 w2 w3 w4 w5 w6:Value}(h1:IsL M u32V w1 (ofN 1))(h2:IsL M u32V w2 (ofN 2))(h3:IsL M u32V w3 (ofN 1))(h4:IsL M u32V w4 (ofN 3))(h5:IsL M u32V w5 (ofN 1))(h6:IsL M u32V w6 (ofN 4)):okIL M (knoL w1 w2 w3 w4 w5 w6):=fun x hx=>by
 unfold knoL at hx
 simp only[List.mem_cons,List.not_mem_nil,or_false]at hx
 rcases hx with rfl|rfl|rfl
 ·exact (itOK_of [112] [97] 4 h1 h2 (by decide) (by decide) (by decide) (by decide) (by decide) (by decide)).ok
 ·exact (itOK_of [112] [98] 1 h3 h4 (by decide) (by decide) (by decide) (by decide) (by decide) (by decide)).ok
 ·exact (itOK_of [112] [99] 2 h5 h6 (by decide) (by decide) (by decide) (by decide) (by decide) (by decide)).ok
theorem same102_ok(k:Nat)(T:TypeId){v:Value}(hv:IsL M intV64 v [1,0,2])(hK:K (.ext (.bool true)) [(k,T,[.ext (.int .i64 1),.ext (.int .i64 0),.ext (.int .i64 2)])] M):CallS Try.prog 23 [.ext v,.slo k 0 3 1] [(k,T,[.ext (.int .i64 1),.ext (.int .i64 0),.ext (.int .i64 2)])] M [] K:=
 same_bor (H:=[(k,T,[.ext (.int .i64 1),.ext (.int .i64 0),.ext (.int .i64 2)])]) (l1:=[1,0,2]) (l2:=[1,0,2]) (T:=T) ⟨⟨[.int .i64 1,.int .i64 0,.int .i64 2],rfl⟩,trivial⟩ (by simp[lkH,cE,intV64]) rfl hv (by show 3<1000000000;decide) (by show 3<1000000000;decide) (by rw[decide_eq_true rfl];exact hK)
theorem known29_ok(hK:∀M',Mem.le M M'→K (.ext (.bool true)) [] M'):CallS Try.prog 15 [] [] M [] K:=by
 refine inlS (cs:=[]) Try.mixed Try.func15 rfl (by kernel_rfl) 0 rfl rfl ?_
 simp only[Try.f15]
 refine Go1.mk ?_;repeat' ((first|(with_reducible refine Go1.go ?_)|(((with_reducible refine isCall (f:=19) ?_);refine callA_nil (by kernel_rfl) ?_;refine (item_ok [97] 1 2 4 (by decide) (by decide) (by decide) (fun w1 w2 M1 a1 a2 a3 _ _=>Stop.mk ?_))))|(refine And.intro ?_ ?_;(try simp only[sxO]at *);omega)|fail)<;>(try simp (maxSteps:=1000000) only [bs_mk,bs_app,bs_ext,bs_size,bs_toList,bs_at,bs_cells,List.take_length,imp_ga,guard_pk,guard_pk2,↓hold_pre,awayP,runOps,regK,step1,newK,genR,appR,obl,buildR,Value.cells,closeK,keepH,outV,retK,ret1,retC,RetV,Option.getD,runD,stepD,afterK,undef,simprocAttr,sxB,↓sxD,sxE,sxTab]))
 have a1:Mem.le M M1:=a1
 have a2:IsL M1 u32V w1 (ofN 1):=a2
 have a3:IsL M1 u32V w2 (ofN 2):=a3
 refine Stop.go ?_
 refine Go1.mk ?_;repeat' ((first|(with_reducible refine Go1.go ?_)|(((with_reducible refine isCall (f:=19) ?_);refine callA_nil (by kernel_rfl) ?_;refine (item_ok [98] 1 3 1 (by decide) (by decide) (by decide) (fun w3 w4 M2 b1 b2 b3 _ _=>Stop.mk ?_))))|(refine And.intro ?_ ?_;(try simp only[sxO]at *);omega)|fail)<;>(try simp (maxSteps:=1000000) only [a2.one,a3.one,bs_mk,bs_app,bs_ext,bs_size,bs_toList,bs_at,bs_cells,List.take_length,imp_ga,guard_pk,guard_pk2,↓hold_pre,awayP,runOps,regK,step1,newK,genR,appR,obl,buildR,Value.cells,closeK,keepH,outV,retK,ret1,retC,RetV,Option.getD,runD,stepD,afterK,undef,simprocAttr,sxB,↓sxD,sxE,sxTab]))
 have b1:Mem.le M1 M2:=b1
 have b2:IsL M2 u32V w3 (ofN 1):=b2
 have b3:IsL M2 u32V w4 (ofN 3):=b3
 refine Stop.go ?_
 refine Go1.mk ?_;repeat' ((first|(with_reducible refine Go1.go ?_)|(((with_reducible refine isCall (f:=19) ?_);refine callA_nil (by kernel_rfl) ?_;refine (item_ok [99] 1 4 2 (by decide) (by decide) (by decide) (fun w5 w6 M3 c1 c2 c3 _ _=>Stop.mk ?_))))|(refine And.intro ?_ ?_;(try simp only[sxO]at *);omega)|fail)<;>(try simp (maxSteps:=1000000) only [a2.one,a3.one,b2.one,b3.one,bs_mk,bs_app,bs_ext,bs_size,bs_toList,bs_at,bs_cells,List.take_length,imp_ga,guard_pk,guard_pk2,↓hold_pre,awayP,runOps,regK,step1,newK,genR,appR,obl,buildR,Value.cells,closeK,keepH,outV,retK,ret1,retC,RetV,Option.getD,runD,stepD,afterK,undef,simprocAttr,sxB,↓sxD,sxE,sxTab]))
 have c1:Mem.le M2 M3:=c1
 have c2:IsL M3 u32V w5 (ofN 1):=c2
 have c3:IsL M3 u32V w6 (ofN 4):=c3
 have hok:=kno_ok ((a2.le b1).le c1) ((a3.le b1).le c1) (b2.le c1) (b3.le c1) c2 c3
 refine Stop.go ?_
 refine Go1.mk ?_;repeat' ((first|(with_reducible refine Go1.go ?_)|((with_reducible refine isCall (f:=11) ?_);refine callA ?_)|((with_reducible refine isCallS (f:=11) ?_);refine (oorder_bor 9 3 _ (L:=knoL w1 w2 w3 w4 w5 w6) rfl hok (by show 3<1000000;decide) (fun v Z M4 d1 d2 d3=>Stop.mk ?_)))|(refine And.intro ?_ ?_;(try simp only[sxO]at *);omega)|fail)<;>(try simp (maxSteps:=1000000) only [a2.one,a3.one,b2.one,b3.one,c2.one,c3.one,bs_mk,bs_app,bs_ext,bs_size,bs_toList,bs_at,bs_cells,List.take_length,imp_ga,guard_pk,guard_pk2,↓hold_pre,awayP,runOps,regK,step1,newK,genR,appR,obl,buildR,Value.cells,closeK,keepH,outV,retK,ret1,retC,RetV,Option.getD,runD,stepD,afterK,undef,simprocAttr,sxB,↓sxD,sxE,sxTab]))
 have d1:Mem.le M3 M4:=d1
 obtain rfl:=kno_ord d2
 have hE:ordE (knoL w1 w2 w3 w4 w5 w6)=0:=by unfold ordE;rw[kno_chk,if_pos rfl]
 have d4:=d3.nat
 have d5:IsL M4 intV64 v [1,0,2]:=d4
 have hok2:=hok.le d1
 have hkm:=irC_ment (knoL w1 w2 w3 w4 w5 w6)
 have hkk:=fun k=>irC_kill k (knoL w1 w2 w3 w4 w5 w6)
 have hEe:=kno_err w1 w2 w3 w4 w5 w6
 have hM4:=((a1.trans b1).trans c1).trans d1
 refine Stop.go ?_
 refine Go1.mk ?_;repeat' ((first|(with_reducible refine Go1.go ?_)|((with_reducible refine isCall (f:=12) ?_);refine callA ?_)|((with_reducible refine isCallS (f:=12) ?_);refine (oloss_bor 9 3 _ (L:=knoL w1 w2 w3 w4 w5 w6) (o:=[1,0,2]) rfl hok2 (by show 3<1000000;decide) d5 (by show 3<1000000;decide) (fun v1 v2 M5 e1 e2 e3=>Stop.mk ?_)))|(refine And.intro ?_ ?_;(try simp only[sxO]at *);omega)|fail)<;>(try simp (maxSteps:=1000000) only [hE,d5.one,irC_ment,irC_kill,hasK_nil,bs_mk,bs_app,bs_ext,bs_size,bs_toList,bs_at,bs_cells,List.take_length,imp_ga,guard_pk,guard_pk2,↓hold_pre,awayP,runOps,regK,step1,newK,genR,appR,obl,buildR,Value.cells,closeK,keepH,outV,retK,ret1,retC,RetV,Option.getD,runD,stepD,afterK,undef,simprocAttr,sxB,↓sxD,sxE,sxTab]))
 have e1:Mem.le M4 M5:=e1
 rw[kno_los]at e2 e3
 have d6:=d5.le e1
 refine Stop.go ?_
 refine Go1.mk ?_;repeat' ((first|(with_reducible refine Go1.go ?_)|((with_reducible refine isCall0 (f:=23) ?_);refine callA0 ?_)|((with_reducible refine isCallS (f:=23) ?_);refine (same102_ok 29 _ d6 ?_))|(((with_reducible refine isCall0 (f:=22) ?_);refine callA0_nil (by kernel_rfl) ?_;refine (sml_ok 55 12 (by decide) (by decide) (by decide) (fun w7 w8 M6 f1 f2 f3 _ _=>Stop.mk ?_))))|((with_reducible refine isDraw [some 21,some 22,some 23,some 24,some 25,some 26,some 27,some 28,some 29,some 30,some 31,some 32,some 33,some 34,some 35,some 36,some 0] (by decide) ?_);refine draw_rule [(0,[]),(1,[]),(2,[]),(3,[]),(4,[]),(5,[]),(6,[]),(7,[]),(8,[]),(9,[]),(10,[]),(11,[]),(12,[]),(13,[12]),(14,[]),(15,[]),(16,[])] [[],[0],[0,1],[0,1,2],[0,1,2,3],[0,1,2,3,4],[0,1,2,3,4,5],[0,1,2,3,4,5,6],[0,1,2,3,4,5,6],[0,1,2,3,4,5,6,7,8],[0,1,2,3,4,5,6,7,8,9],[0,1,2,3,4,5,6,7,8,9,10],[0,1,2,3,4,5,6,7,8,9,10,11],[0,1,2,3,4,5,6,7,8,9,10,11],[0,1,2,3,4,5,6,7,8,9,10,11,12,13],[0,1,2,3,4,5,6,7,8,9,10,11,12,13,14],[0,1,2,3,4,5,6,7,8,9,10,11,12,13,14,15]] [28,29,33,34] [] (by kernel_rfl) (by kernel_rfl) (by kernel_rfl) (by kernel_rfl) (by exact trivial) ?_)|(refine And.intro ?_ ?_;(try simp only[sxO]at *);omega)|fail)<;>(try simp (maxSteps:=1000000) only [hE,hEe,d6.one,e2.one,e3.one,irC_ment,irC_kill,hasK_nil,bs_mk,bs_app,bs_ext,bs_size,bs_toList,bs_at,bs_cells,List.take_length,imp_ga,guard_pk,guard_pk2,↓hold_pre,awayP,runOps,regK,step1,newK,genR,appR,obl,buildR,Value.cells,closeK,keepH,outV,retK,ret1,retC,RetV,Option.getD,runD,stepD,afterK,undef,simprocAttr,sxB,↓sxD,sxE,sxTab]))
 have f1:Mem.le M5 M6:=f1
 have f2:IsL M6 u32V w7 (ofN 55):=f2
 have f3:IsL M6 u32V w8 (ofN 12):=f3
 have hk:=hK M6 ((hM4.trans e1).trans f1)
 have e2:=e2.le f1
 have e3:=e3.le f1
 have l55:(ofN 55).length<1000000000:=by rw[ofN_u32 (by decide) (by decide)];decide
 have l12:(ofN 12).length<1000000000:=by rw[ofN_u32 (by decide) (by decide)];decide
 refine Stop.go ?_
 refine Go1.mk ?_;repeat' ((first|(with_reducible refine Go1.go ?_)|(((with_reducible refine isCall0 (f:=33) ?_);refine callA0_nil (by kernel_rfl) ?_;refine (sameFrac_ok e2 e3 f2 f3 l55 l12 ?_)))|((with_reducible refine isDraw [some 21,some 22,some 23,some 24,some 25,some 26,some 27,some 28,some 29,some 30,some 31,some 32,some 33,some 34,some 35,some 36,some 0] (by decide) ?_);refine draw_rule [(0,[]),(1,[]),(2,[]),(3,[]),(4,[]),(5,[]),(6,[]),(7,[]),(8,[]),(9,[]),(10,[]),(11,[]),(12,[]),(13,[12]),(14,[]),(15,[]),(16,[])] [[],[0],[0,1],[0,1,2],[0,1,2,3],[0,1,2,3,4],[0,1,2,3,4,5],[0,1,2,3,4,5,6],[0,1,2,3,4,5,6],[0,1,2,3,4,5,6,7,8],[0,1,2,3,4,5,6,7,8,9],[0,1,2,3,4,5,6,7,8,9,10],[0,1,2,3,4,5,6,7,8,9,10,11],[0,1,2,3,4,5,6,7,8,9,10,11],[0,1,2,3,4,5,6,7,8,9,10,11,12,13],[0,1,2,3,4,5,6,7,8,9,10,11,12,13,14],[0,1,2,3,4,5,6,7,8,9,10,11,12,13,14,15]] [28,29,33,34] [] (by kernel_rfl) (by kernel_rfl) (by kernel_rfl) (by kernel_rfl) (by exact trivial) ?_)|(refine And.intro ?_ ?_;(try simp only[sxO]at *);omega)|fail)<;>(try simp (maxSteps:=1000000) only [e2.one,e3.one,f2.one,f3.one,irC_ment,irC_kill,hasK_nil,bs_mk,bs_app,bs_ext,bs_size,bs_toList,bs_at,bs_cells,List.take_length,imp_ga,guard_pk,guard_pk2,↓hold_pre,awayP,runOps,regK,step1,newK,genR,appR,obl,buildR,Value.cells,closeK,keepH,outV,retK,ret1,retC,RetV,Option.getD,runD,stepD,afterK,undef,simprocAttr,sxB,↓sxD,sxE,sxTab]))
 exact hk
end
section
variable {b:Nat}{T:TypeId}{Ls:List (List Value)}{r h:Hp}{k i n:Nat}
end
mutual
def BorI(M0 M:Mem)(H:Hp):AV→Value→Prop
 | .ext v,u=>u=v
 | .slo k off n z,u=>FreshS M0 u∧∀T (cs:List Value),lkH H k=some (T,cs.map .ext)→off+n*z≤cs.length→SlM M z u n ((cs.drop off).take (n*z))
 | .own _ _,_=>True
 | .gd _ _,_=>True
 | .gown _ _ _,_=>True
 | .ag _ _,_=>True
 | .fn _ _,_=>True
 | .bm _ _,_=>True
 | .unk,_=>True
def BorIL(M0 M:Mem)(H:Hp):List AV→List Value→Prop
 | [],us=>us=[]
 | v :: l,us=>∃u r,us=u :: r∧BorI M0 M H v u∧BorIL M0 M H l r
end
def BorO(M0 M:Mem)(H:Hp):AV→Value→Prop
 | .ext v,u=>u=v
 | .slo k off n z,u=>FreshS M0 u∧∀T cs,lkH H k=some (T,cs)→off+n*z≤cs.length→∃vs,SlM M z u n vs∧BorIL M0 M H ((cs.drop off).take (n*z)) vs
 | .own _ _,_=>True
 | .gd _ _,_=>True
 | .gown _ _ _,_=>True
 | .ag _ _,_=>True
 | .fn _ _,_=>True
 | .bm _ _,_=>True
 | .unk,_=>True
section
variable {ρ:Rho}{M0 M:Mem}{H:Hp}{w:World}
theorem slo_fresh{k off n z:Nat}{u:Value}(hu:(AV.slo k off n z).is ρ u)(h:∀b,ρ k=some b→M0 b.b=none):FreshS M0 u:=by
 rcases hu with ⟨b,cap,hb,e,h5,h6⟩|⟨e,a,ha,e2⟩
 ·refine .inr fun b' off n' c e'=>?_
  rw[e]at e'
  cases e'
  exact h b hb
 ·refine .inl ?_
  rw[e2];rfl
def HoldH(ρ:Rho)(M0 M:Mem)(H:Hp)(w:World):Prop:=∀k T cs b,lkH H k=some (T,cs)→ρ k=some b→(∃arr,M b.b=some (.cells arr T (0,0))∧Row ρ w T cs b arr)∧M0 b.b=none
def closedH(H:Hp):Prop:=∀k T cs j,lkH H k=some (T,cs)→j∈mentL cs→(lkH H j).isSome=true
theorem borI_is(hM:HoldH ρ M0 M H w):∀(v:AV) (u:Value),(∀j∈v.ment,(lkH H j).isSome=true)→v.is ρ u→BorI M0 M H v u:=fun v u hj h=>by
 cases v with
 | ext _=>exact h
 | slo k off n z=>
  obtain ⟨x,hx⟩:=Option.isSome_iff_exists.1 (hj k (by simp[AV.ment]))
  exact ⟨slo_fresh h fun b hb=>(hM k x.1 x.2 b hx hb).2,fun T cs hk hl=>slo_SlMo h (by simpa using hl) fun b hb=>(hM k T _ b hk hb).1⟩
 | _=>simp only[BorI]
end
structure LLu (M:Mem) (U:Value) (us:List Value) (Ls:List (List Value)):Prop where
 out:SlM M 1 U Ls.length us
 len:us.length=Ls.length
 at_:∀i (h:i<Ls.length),SlM M 1 (us[i]'(by omega)) Ls[i].length Ls[i]
def LL(M:Mem)(U:Value)(Ls:List (List Value)):Prop:=∃us,LLu M U us Ls
theorem LLu.le{M M':Mem}{U:Value}{us:List Value}{Ls:List (List Value)}(h:LLu M U us Ls)(hM:Mem.le M M'):LLu M' U us Ls:=⟨h.out.le hM,h.len,fun i hi=>(h.at_ i hi).le hM⟩
theorem LL.le{M M':Mem}{U:Value}{Ls:List (List Value)}(h:LL M U Ls)(hM:Mem.le M M'):LL M' U Ls:=h.elim fun us hu=>⟨us,hu.le hM⟩
structure LLF (M0 M:Mem) (U:Value) (Ls:List (List Value)):Prop where
 all:∃us,LLu M U us Ls∧FreshS M0 U∧∀u∈us,FreshS M0 u
theorem LLF.move{M' M'' M3:Mem}{U:Value}{Ls:List (List Value)}(h:LLF M' M'' U Ls)(h3:∀b,M' b=none→M3 b=M'' b):LL M3 U Ls:=by
 obtain ⟨us,h1,h2,h4⟩:=h.all
 exact ⟨us,h1.out.move h2 h3,h1.len,fun i hi=>(h1.at_ i hi).move (h4 _ (List.getElem_mem _)) h3⟩
theorem BorIL.get{M0 M:Mem}{H:Hp}:∀{l:List AV} {us:List Value},BorIL M0 M H l us→us.length=l.length∧∀i (h:i<us.length) v,l[i]? = some v→BorI M0 M H v us[i]
 | [],us,h=>by
  simp only[BorIL]at h
  subst h
  exact ⟨rfl,fun i h=>by simp at h⟩
 | v :: l,us,h=>by
  simp only[BorIL]at h
  obtain ⟨u,r,rfl,h1,h2⟩:=h
  obtain ⟨h3,h4⟩:=BorIL.get h2
  refine ⟨by simp[h3],fun i hi w hw=>?_⟩
  cases i with
  | zero=>simp at hw;subst hw;exact h1
  | succ i=>exact h4 i (by simpa using hi) w (by simpa using hw)
theorem BorO.isL{α:Type}{M0 M:Mem}{H:Hp}{k n:Nat}{g:α→Value}{L:List α}{u:Value}{T:TypeId}(h:BorO M0 M H (.slo k 0 n 1) u)(hk:lkH H k=some (T,cE g L))(hn:n=L.length):IsL M g u L:=by
 subst hn
 obtain ⟨vs,h2,h3⟩:=h.2 T _ hk (by rw[cE_len];omega)
 rw[List.drop_zero,List.take_of_length_le (by rw[cE_len];omega)]at h3
 obtain ⟨h4,h5⟩:=h3.get
 rw[cE_len]at h4
 have:vs=L.map g:=List.ext_getElem (by simp[h4]) fun i h6 h7=>by
  have:=h5 i h6 (.ext (g (L[i]'(by omega)))) (by rw[cE_at g (by omega)])
  simp only[BorI]at this
  rw[this,List.getElem_map]
 rw[this]at h2
 exact h2
def frzE(us:Nat→Value):List Nat→Env→Env
 | [],E=>E
 | t :: r,E=>(t,.ext (us t)) :: frzE us r E
theorem lk_frzE(us:Nat→Value)(E:Env):∀(ts:List Nat) (t:Nat),lk (frzE us ts E) t=.ext (us t)∨lk (frzE us ts E) t=lk E t
 | [],t=>.inr rfl
 | q :: r,t=>by
  simp only[frzE,lk]
  split
  ·rename_i e;subst e;exact .inl rfl
  ·exact lk_frzE us E r t
open Classical in
theorem Fz.frz{z:St}{B:St→Prop}(F:Hp)(ts:List Nat)(E:Env)(R:Hp)(hc:closedH F)(hF:∀k x,lkH F k=some x→lkH z.hp k=some x∧z.kb≤k)
  (hE:subE E z.env) (hE2:∀k,(lkH F k).isSome=true→k∉mentE E) (hR:subHp R z.hp) (hR2:∀k,(lkH F k).isSome=true→k∉mentH R) (hkeep:keepLt z.kb R z.hp) (hfx:∀k,k<z.kb→(lkH z.hp k).isSome=true→k∈z.fx)
  (h:∀M' ρ w us,Mem.le z.M M'→HoldH ρ z.M M' F w→(∀t,(lk z.env t).is ρ (us t))→B {env:=frzE us ts E,hp:=R,M:=M',kb:=z.kb,fx:=z.fx,fr:=z.fr}):Fz z B:=fun c n a w hcx ⟨ρ,g⟩=>by
 let D:Nat→Prop:=fun b=>∃k x,(lkH F k).isSome=true∧ρ k=some x∧x.b=b
 let M':Mem:=fun b=>if D b then w.heap[b]? else z.M b
 have hFz:∀k,(lkH F k).isSome=true→(lkH z.hp k).isSome=true∧z.kb≤k:=fun k hk=>by
  obtain ⟨x,hx⟩:=Option.isSome_iff_exists.1 hk
  obtain ⟨h1,h2⟩:=hF k x hx
  exact ⟨by rw[h1];rfl,h2⟩
 have hRz:∀k x,lkH R k=some x→lkH z.hp k=some x:=subHp_lk hR
 have hRF:∀k x,lkH R k=some x→lkH F k=none:=fun k x hx=>by
  cases e:lkH F k with
  | none=>rfl
  | some y=>exact absurd (mentH_lk (T:=x.1) (cs:=x.2) hx (.inl rfl)) (hR2 k (by rw[e];rfl))
 have hMD:∀b,D b→z.M b=none:=fun b ⟨k,x,hk,hx,e⟩=>by
  obtain ⟨y,hy⟩:=Option.isSome_iff_exists.1 hk
  rw[←e];exact (g.hp k y.1 y.2 x (hF k y hy).1 hx).2.2
 have hle:Mem.le z.M M':=fun b o hb=>by
  by_cases hD:D b
  ·rw[hMD b hD]at hb;cases hb
  ·simp only[M',if_neg hD];exact hb
 have hhold:HoldH ρ z.M M' F w:=fun k T cs b hk hb=>by
  obtain ⟨⟨arr,h1⟩,_,h2⟩:=g.hp k T cs b (hF k _ hk).1 hb
  have hD:D b.b:=⟨k,b,by rw[hk];rfl,hb,rfl⟩
  exact ⟨⟨arr,by simp only[M',if_pos hD];exact h1.there,h1⟩,h2⟩
 refine ⟨_,⟨ρ,?_⟩,h M' ρ w (fun t=>a.tmps.getD t undef) hle hhold g.env⟩
 refine {df:=g.df,sz:=g.sz,env:=fun t=>?_,hp:=fun j T' cs b hj hb=>?_,no:=fun j T' cs hj hb=>g.no j T' cs (hRz j _ hj) hb,inj:=fun j j' b b' hj hj' hb hb' e=>?_,os:=g.os,tape:=g.tape,output:=g.output,size:=g.size,block:=g.block,sub:=fun b o hb=>?_,le:=g.le.trans hle,mf:=fun b hb=>?_,fix:=fun j hj=>keepLt_ok hkeep j (g.kl j hj) (g.fix j hj),fx:=g.fx,kl:=g.kl,fr:=g.fr}
 ·show (lk (frzE _ ts E) t).is ρ _
  rcases lk_frzE (fun t=>a.tmps.getD t undef) E ts t with e|e
  ·rw[e];rfl
  ·rw[e]
   rcases subE_lk hE t with e2|e2
   ·rw[e2];trivial
   ·rw[e2];exact g.env t
 ·obtain ⟨f1,f2,f3⟩:=g.hp j T' cs b (hRz j _ hj) hb
  refine ⟨f1,f2,?_⟩
  have hnD:¬D b.b:=fun ⟨k,x,hk,hx,e⟩=>by
   have:=g.inj k j x b (hFz k hk).1 (by rw[hRz j _ hj];rfl) hx hb e
   subst this
   rw[hRF k _ hj]at hk;cases hk
  show M' b.b=none
  simp only[M',if_neg hnD];exact f3
 ·obtain ⟨x,hx⟩:=Option.isSome_iff_exists.1 hj
  obtain ⟨x',hx'⟩:=Option.isSome_iff_exists.1 hj'
  exact g.inj j j' b b' (by rw[hRz j x hx];rfl) (by rw[hRz j' x' hx'];rfl) hb hb' e
 ·have hb:M' b=some o:=hb
  by_cases hD:D b
  ·simp only[M',if_pos hD]at hb;exact hb
  ·simp only[M',if_neg hD]at hb;exact g.sub b o hb
 ·have hb:M' b≠none:=hb
  by_cases hD:D b
  ·obtain ⟨k,x,hk,hx,e⟩:=hD
   obtain ⟨y,hy⟩:=Option.isSome_iff_exists.1 hk
   rcases (g.hp k y.1 y.2 x (hF k y hy).1 hx).2.1 with h5|h5
   ·rw[←e];exact .inr h5
   ·exfalso
    obtain ⟨k',y',h6,h7,h8⟩:=hcx.x _ h5
    have h9:=g.fix k' h6
    have h10:=g.kl k' h6
    have h11:=g.fx k' (hfx k' h10 h9)
    rw[h7]at h11
    have:=g.inj k' k y' x h9 (hFz k hk).1 h11 hx h8
    have:=(hFz k hk).2
    omega
  ·simp only[M',if_neg hD]at hb;exact g.mf b hb
theorem Fz.flat{z:St}{B:St→Prop}{k n w:Nat}{T:TypeId}(t:Nat)(cs:List Value)(E:Env)(R:Hp)(ht:lk z.env t=.slo k 0 n w)(hk:lkH z.hp k=some (T,cs.map .ext))(hn:cs.length=n*w)(hkb:z.kb≤k)
  (hE:subE E z.env) (hE1:hasK k (mentE E)=false) (hR:subHp R z.hp) (hR1:hasK k (mentH R)=false) (hkeep:keepLt z.kb R z.hp) (hfx:∀k,k<z.kb→(lkH z.hp k).isSome=true→k∈z.fx)
  (h:∀M' U,Mem.le z.M M'→SlM M' w U n cs→FreshS z.M U→B {env:=(t,.ext U) :: E,hp:=R,M:=M',kb:=z.kb,fx:=z.fx,fr:=z.fr}):Fz z B:=by
 have hlk:∀j x,lkH [(k,T,cs.map AV.ext)] j=some x→j=k∧x=(T,cs.map .ext):=fun j x h=>by
  simp only[lkH]at h
  split at h
  ·rename_i e;cases h;exact ⟨e.symm,rfl⟩
  ·cases h
 have hc:closedH [(k,T,cs.map AV.ext)]:=fun j T' ds q hj hq=>by
  obtain ⟨_,e⟩:=hlk j _ hj
  cases e
  rw[mentL_ext]at hq;cases hq
 have hs:∀j,(lkH [(k,T,cs.map AV.ext)] j).isSome=true→j=k:=fun j hj=>by
  obtain ⟨x,hx⟩:=Option.isSome_iff_exists.1 hj
  exact (hlk j x hx).1
 refine Fz.frz [(k,T,cs.map .ext)] [t] E R hc (fun j x hx=>?_) hE (fun j h1 h2=>?_) hR (fun j h1 h2=>?_) hkeep hfx (fun M' ρ v us hM hh hu=>?_)
 ·obtain ⟨rfl,rfl⟩:=hlk j x hx
  exact ⟨hk,hkb⟩
 ·exact hasK_no.1 hE1 (hs j h1▸h2)
 ·exact hasK_no.1 hR1 (hs j h1▸h2)
 ·have h1:=hu t
  rw[ht]at h1
  have h2:=borI_is hh _ _ (fun j hj=>by
   have:j=k:=by simpa [AV.ment] using hj
   subst this
   simp[lkH]) h1
  obtain ⟨h3,h4⟩:=h2
  have h5:=h4 T cs (by simp[lkH]) (by omega)
  rw[List.drop_zero,List.take_of_length_le (by omega)]at h5
  exact h M' (us t) hM h5 h3
theorem Fz.bind{z:St}{B:St→Prop}(h:Fz z (fun y=>Fz y B)):Fz z B:=fun c n a w hcx g=>by
 obtain ⟨y,g1,h1⟩:=h c n a w hcx g
 exact h1 c n a w hcx g1
open Classical in
theorem Fz.cell{z:St}{B:St→Prop}{j k n q:Nat}{T T0:TypeId}(cs:List Value)(E:Env)(R:Hp)(hj:lkH z.hp j=some (T0,[.slo k 0 n q]))(hk:lkH z.hp k=some (T,cs.map .ext))(hn:cs.length=n*q)(hkb:z.kb≤k)(hjk:j≠k)
  (hE:subE E z.env) (hE2:k∉mentE E) (hR:subHp R z.hp) (hR2:k∉mentH R) (hkeep:keepLt z.kb R z.hp) (hfx:∀k,k<z.kb→(lkH z.hp k).isSome=true→k∈z.fx)
  (h:∀M' U,Mem.le z.M M'→SlM M' q U n cs→FreshS z.M U→B {env:=E,hp:=(j,T0,[.ext U]) :: R,M:=M',kb:=z.kb,fx:=z.fx,fr:=z.fr}):Fz z B:=fun c n0 a w hcx ⟨ρ,g⟩=>by
 obtain ⟨bj,hbj⟩:∃b,ρ j=some b:=by
  cases hb:ρ j with
  | none=>have:=g.no j _ _ hj hb;cases this
  | some b=>exact ⟨b,rfl⟩
 obtain ⟨⟨arr0,row0⟩,fj2,fj3⟩:=g.hp j _ _ bj hj hbj
 have hU:=row0.is 0 (.slo k 0 n q) rfl
 generalize hUe:arr0.getD 0 undef=U at hU
 let D:Nat→Prop:=fun b=>∃x,ρ k=some x∧x.b=b
 let M':Mem:=fun b=>if D b then w.heap[b]? else z.M b
 have hRz:∀k x,lkH R k=some x→lkH z.hp k=some x:=subHp_lk hR
 have hRF:∀i x,lkH R i=some x→i≠k:=fun i x hx e=>by
  subst e
  exact hR2 (mentH_lk (T:=x.1) (cs:=x.2) hx (.inl rfl))
 have hMD:∀b,D b→z.M b=none:=fun b ⟨x,hx,e⟩=>by
  rw[←e];exact (g.hp k _ _ x hk hx).2.2
 have hle:Mem.le z.M M':=fun b o hb=>by
  by_cases hD:D b
  ·rw[hMD b hD]at hb;cases hb
  ·simp only[M',if_neg hD];exact hb
 have hlk:∀j x,lkH [(k,T,cs.map AV.ext)] j=some x→j=k∧x=(T,cs.map .ext):=fun j x h=>by
  simp only[lkH]at h
  split at h
  ·rename_i e;cases h;exact ⟨e.symm,rfl⟩
  ·cases h
 have hc:closedH [(k,T,cs.map AV.ext)]:=fun j T' ds q hj hq=>by
  obtain ⟨_,e⟩:=hlk j _ hj
  cases e
  rw[mentL_ext]at hq;cases hq
 have hhold:HoldH ρ z.M M' [(k,T,cs.map AV.ext)] w:=fun i T' ds b hi hb=>by
  obtain ⟨rfl,e⟩:=hlk i _ hi
  cases e
  obtain ⟨⟨arr,h1⟩,_,h2⟩:=g.hp _ _ _ b hk hb
  have hD:D b.b:=⟨b,hb,rfl⟩
  exact ⟨⟨arr,by simp only[M',if_pos hD];exact h1.there,h1⟩,h2⟩
 have hB:B {env:=E,hp:=(j,T0,[.ext U]) :: R,M:=M',kb:=z.kb,fx:=z.fx,fr:=z.fr}:=by
  have h2:=borI_is hhold (.slo k 0 n q) U (fun i hi=>by
   have:i=k:=by simpa [AV.ment] using hi
   subst this
   simp[lkH]) hU
  obtain ⟨h3,h4⟩:=h2
  have h5:=h4 T cs (by simp[lkH]) (by omega)
  rw[List.drop_zero,List.take_of_length_le (by omega)]at h5
  exact h M' U hle h5 h3
 have hlk2:∀i x,lkH ((j,T0,[AV.ext U]) :: R) i=some x→(i=j∧x=(T0,[.ext U]))∨(i≠j∧lkH R i=some x):=fun i x hx=>by
  simp only[lkH]at hx
  split at hx
  ·rename_i e;cases hx;exact .inl ⟨e.symm,rfl⟩
  ·rename_i e;exact .inr ⟨fun e2=>e e2.symm,hx⟩
 have hsome:∀i,(lkH ((j,T0,[AV.ext U]) :: R) i).isSome=true→(lkH z.hp i).isSome=true:=fun i hi=>by
  obtain ⟨x,hx⟩:=Option.isSome_iff_exists.1 hi
  rcases hlk2 i x hx with ⟨rfl,_⟩|⟨_,hx⟩
  ·rw[hj];rfl
  ·rw[hRz i x hx];rfl
 have hnk:∀i,(lkH ((j,T0,[AV.ext U]) :: R) i).isSome=true→i≠k:=fun i hi=>by
  obtain ⟨x,hx⟩:=Option.isSome_iff_exists.1 hi
  rcases hlk2 i x hx with ⟨rfl,_⟩|⟨_,hx⟩
  ·exact hjk
  ·exact hRF i x hx
 have hnD:∀i b,(lkH ((j,T0,[AV.ext U]) :: R) i).isSome=true→ρ i=some b→¬D b.b:=fun i b hi hb ⟨x,hx,e⟩=>by
  exact hnk i hi (g.inj k i x b (by rw[hk];rfl) (hsome i hi) hx hb e).symm
 refine ⟨_,⟨ρ,?_⟩,hB⟩
 refine {df:=g.df,sz:=g.sz,env:=fun t=>?_,hp:=fun i T' ds b hi hb=>?_,no:=fun i T' ds hi hb=>?_,inj:=fun i i' b b' hi hi' hb hb' e=>g.inj i i' b b' (hsome i hi) (hsome i' hi') hb hb' e,os:=g.os,tape:=g.tape,output:=g.output,size:=g.size,block:=g.block,sub:=fun b o hb=>?_,le:=g.le.trans hle,mf:=fun b hb=>?_,fix:=fun i hi=>?_,fx:=g.fx,kl:=g.kl,fr:=g.fr}
 ·show (lk E t).is ρ _
  rcases subE_lk hE t with e2|e2
  ·rw[e2];trivial
  ·rw[e2];exact g.env t
 ·have hD:=hnD i b (by rw[hi];rfl) hb
  rcases hlk2 i _ hi with ⟨rfl,e⟩|⟨_,hi⟩
  ·cases e
   rw[hbj]at hb;cases hb
   refine ⟨⟨arr0,row0.there,row0.size,row0.le,fun p v hv=>?_⟩,fj2,?_⟩
   ·cases p with
    | zero=>cases hv;exact hUe
    | succ p=>cases hv
   ·show M' bj.b=none
    simp only[M',if_neg hD];exact fj3
  ·obtain ⟨f1,f2,f3⟩:=g.hp i T' ds b (hRz i _ hi) hb
   refine ⟨f1,f2,?_⟩
   show M' b.b=none
   simp only[M',if_neg hD];exact f3
 ·rcases hlk2 i _ hi with ⟨rfl,e⟩|⟨_,hi⟩
  ·rw[hbj]at hb;cases hb
  ·exact g.no i T' ds (hRz i _ hi) hb
 ·have hb:M' b=some o:=hb
  by_cases hD:D b
  ·simp only[M',if_pos hD]at hb;exact hb
  ·simp only[M',if_neg hD]at hb;exact g.sub b o hb
 ·have hb:M' b≠none:=hb
  by_cases hD:D b
  ·obtain ⟨x,hx,e⟩:=hD
   rcases (g.hp k _ _ x hk hx).2.1 with h5|h5
   ·rw[←e];exact .inr h5
   ·exfalso
    obtain ⟨k',y',h6,h7,h8⟩:=hcx.x _ h5
    have h9:=g.fix k' h6
    have h10:=g.kl k' h6
    have h11:=g.fx k' (hfx k' h10 h9)
    rw[h7]at h11
    have:=g.inj k' k y' x h9 (by rw[hk];rfl) h11 hx h8
    omega
  ·simp only[M',if_neg hD]at hb;exact g.mf b hb
 ·have h1:=keepLt_ok hkeep i (g.kl i hi) (g.fix i hi)
  simp only[lkH]
  split
  ·rfl
  ·exact h1
open Classical in
theorem Fz.cellI{z:St}{B:St→Prop}{j k n q off p0:Nat}{T T0:TypeId}{C:List AV}(cs:List Value)(E:Env)(R:Hp)(hj:lkH z.hp j=some (T0,C))(hC:C[p0]? = some (.slo k off n q))(hk:lkH z.hp k=some (T,cs.map .ext))(hn:off+n*q≤cs.length)(hkb:z.kb≤k)(hjk:j≠k)
  (hE:subE E z.env) (hE2:k∉mentE E) (hR:subHp R z.hp) (hR2:k∉mentH R) (hkeep:keepLt z.kb R z.hp) (hfx:∀k,k<z.kb→(lkH z.hp k).isSome=true→k∈z.fx)
  (h:∀M' U,Mem.le z.M M'→SlM M' q U n ((cs.drop off).take (n*q))→FreshS z.M U→B {env:=E,hp:=(j,T0,C.set p0 (.ext U)) :: R,M:=M',kb:=z.kb,fx:=z.fx,fr:=z.fr}):Fz z B:=fun c n0 a w hcx ⟨ρ,g⟩=>by
 obtain ⟨bj,hbj⟩:∃b,ρ j=some b:=by
  cases hb:ρ j with
  | none=>have:=g.no j _ _ hj hb;subst this;simp at hC
  | some b=>exact ⟨b,rfl⟩
 obtain ⟨⟨arr0,row0⟩,fj2,fj3⟩:=g.hp j _ _ bj hj hbj
 have hU:=row0.is p0 (.slo k off n q) hC
 generalize hUe:arr0.getD p0 undef=U at hU
 let D:Nat→Prop:=fun b=>∃x,ρ k=some x∧x.b=b
 let M':Mem:=fun b=>if D b then w.heap[b]? else z.M b
 have hRz:∀k x,lkH R k=some x→lkH z.hp k=some x:=subHp_lk hR
 have hRF:∀i x,lkH R i=some x→i≠k:=fun i x hx e=>by
  subst e
  exact hR2 (mentH_lk (T:=x.1) (cs:=x.2) hx (.inl rfl))
 have hMD:∀b,D b→z.M b=none:=fun b ⟨x,hx,e⟩=>by
  rw[←e];exact (g.hp k _ _ x hk hx).2.2
 have hle:Mem.le z.M M':=fun b o hb=>by
  by_cases hD:D b
  ·rw[hMD b hD]at hb;cases hb
  ·simp only[M',if_neg hD];exact hb
 have hlk:∀j x,lkH [(k,T,cs.map AV.ext)] j=some x→j=k∧x=(T,cs.map .ext):=fun j x h=>by
  simp only[lkH]at h
  split at h
  ·rename_i e;cases h;exact ⟨e.symm,rfl⟩
  ·cases h
 have hc:closedH [(k,T,cs.map AV.ext)]:=fun j T' ds q hj hq=>by
  obtain ⟨_,e⟩:=hlk j _ hj
  cases e
  rw[mentL_ext]at hq;cases hq
 have hhold:HoldH ρ z.M M' [(k,T,cs.map AV.ext)] w:=fun i T' ds b hi hb=>by
  obtain ⟨rfl,e⟩:=hlk i _ hi
  cases e
  obtain ⟨⟨arr,h1⟩,_,h2⟩:=g.hp _ _ _ b hk hb
  have hD:D b.b:=⟨b,hb,rfl⟩
  exact ⟨⟨arr,by simp only[M',if_pos hD];exact h1.there,h1⟩,h2⟩
 have hB:B {env:=E,hp:=(j,T0,C.set p0 (.ext U)) :: R,M:=M',kb:=z.kb,fx:=z.fx,fr:=z.fr}:=by
  have h2:=borI_is hhold (.slo k off n q) U (fun i hi=>by
   have:i=k:=by simpa [AV.ment] using hi
   subst this
   simp[lkH]) hU
  obtain ⟨h3,h4⟩:=h2
  have h5:=h4 T cs (by simp[lkH]) (by omega)
  exact h M' U hle h5 h3
 have hlk2:∀i x,lkH ((j,T0,C.set p0 (AV.ext U)) :: R) i=some x→(i=j∧x=(T0,C.set p0 (.ext U)))∨(i≠j∧lkH R i=some x):=fun i x hx=>by
  simp only[lkH]at hx
  split at hx
  ·rename_i e;cases hx;exact .inl ⟨e.symm,rfl⟩
  ·rename_i e;exact .inr ⟨fun e2=>e e2.symm,hx⟩
 have hsome:∀i,(lkH ((j,T0,C.set p0 (AV.ext U)) :: R) i).isSome=true→(lkH z.hp i).isSome=true:=fun i hi=>by
  obtain ⟨x,hx⟩:=Option.isSome_iff_exists.1 hi
  rcases hlk2 i x hx with ⟨rfl,_⟩|⟨_,hx⟩
  ·rw[hj];rfl
  ·rw[hRz i x hx];rfl
 have hnk:∀i,(lkH ((j,T0,C.set p0 (AV.ext U)) :: R) i).isSome=true→i≠k:=fun i hi=>by
  obtain ⟨x,hx⟩:=Option.isSome_iff_exists.1 hi
  rcases hlk2 i x hx with ⟨rfl,_⟩|⟨_,hx⟩
  ·exact hjk
  ·exact hRF i x hx
 have hnD:∀i b,(lkH ((j,T0,C.set p0 (AV.ext U)) :: R) i).isSome=true→ρ i=some b→¬D b.b:=fun i b hi hb ⟨x,hx,e⟩=>by
  exact hnk i hi (g.inj k i x b (by rw[hk];rfl) (hsome i hi) hx hb e).symm
 refine ⟨_,⟨ρ,?_⟩,hB⟩
 refine {df:=g.df,sz:=g.sz,env:=fun t=>?_,hp:=fun i T' ds b hi hb=>?_,no:=fun i T' ds hi hb=>?_,inj:=fun i i' b b' hi hi' hb hb' e=>g.inj i i' b b' (hsome i hi) (hsome i' hi') hb hb' e,os:=g.os,tape:=g.tape,output:=g.output,size:=g.size,block:=g.block,sub:=fun b o hb=>?_,le:=g.le.trans hle,mf:=fun b hb=>?_,fix:=fun i hi=>?_,fx:=g.fx,kl:=g.kl,fr:=g.fr}
 ·show (lk E t).is ρ _
  rcases subE_lk hE t with e2|e2
  ·rw[e2];trivial
  ·rw[e2];exact g.env t
 ·have hD:=hnD i b (by rw[hi];rfl) hb
  rcases hlk2 i _ hi with ⟨rfl,e⟩|⟨_,hi⟩
  ·cases e
   rw[hbj]at hb;cases hb
   refine ⟨⟨arr0,row0.there,row0.size,by rw[List.length_set];exact row0.le,fun p v hv=>?_⟩,fj2,?_⟩
   ·by_cases hp:p0=p
    ·subst hp
     rw[List.getElem?_set_self (by exact (List.getElem?_eq_some_iff.1 hC).1)]at hv
     cases hv;exact hUe
    ·rw[List.getElem?_set_ne hp]at hv
     exact row0.is p v hv
   ·show M' bj.b=none
    simp only[M',if_neg hD];exact fj3
  ·obtain ⟨f1,f2,f3⟩:=g.hp i T' ds b (hRz i _ hi) hb
   refine ⟨f1,f2,?_⟩
   show M' b.b=none
   simp only[M',if_neg hD];exact f3
 ·rcases hlk2 i _ hi with ⟨rfl,e⟩|⟨_,hi⟩
  ·rw[hbj]at hb;cases hb
  ·exact g.no i T' ds (hRz i _ hi) hb
 ·have hb:M' b=some o:=hb
  by_cases hD:D b
  ·simp only[M',if_pos hD]at hb;exact hb
  ·simp only[M',if_neg hD]at hb;exact g.sub b o hb
 ·have hb:M' b≠none:=hb
  by_cases hD:D b
  ·obtain ⟨x,hx,e⟩:=hD
   rcases (g.hp k _ _ x hk hx).2.1 with h5|h5
   ·rw[←e];exact .inr h5
   ·exfalso
    obtain ⟨k',y',h6,h7,h8⟩:=hcx.x _ h5
    have h9:=g.fix k' h6
    have h10:=g.kl k' h6
    have h11:=g.fx k' (hfx k' h10 h9)
    rw[h7]at h11
    have:=g.inj k' k y' x h9 (by rw[hk];rfl) h11 hx h8
    omega
  ·simp only[M',if_neg hD]at hb;exact g.mf b hb
 ·have h1:=keepLt_ok hkeep i (g.kl i hi) (g.fix i hi)
  simp only[lkH]
  split
  ·rfl
  ·exact h1
theorem irC_cons(x:IR)(L:List IR):irC (x :: L)=[.ext (.string (bs x.pk)),.ext (.string (bs x.ts)),.ext x.u1,.ext x.u2,.ext (.int .i64 x.cost)]++irC L:=by simp[irC,IR.c]
def zC(x:IR)(c:Int):IR:={x with cost:=c}
def zF(x:IR):IR:={x with u1:=.slice none 0 0,u2:=.slice none 0 0,l1:=[],l2:=[]}
theorem zC_ok{M:Mem}{x:IR}(h:x.ok M){c:Int}(h0 : -9223372036854775808≤c)(h1:c≤9223372036854775807):(zC x c).ok M:=⟨h.f,h0,h1⟩
theorem zF_ok{M:Mem}{x:IR}(h:x.ok M):(zF x).ok M:=⟨⟨isL_nil _ _ _,isL_nil _ _ _,(fun y hy=>by cases hy),(fun y hy=>by cases hy),Nat.zero_lt_succ _,Nat.zero_lt_succ _⟩,h.lo,h.hi⟩
theorem irC_setC:∀{L:List IR} {i:Nat} (h:i<L.length) (c:Int),(irC L).set (i*5+4) (.ext (.int .i64 c))=irC (L.set i (zC L[i] c))
 | x :: L,0,_,c=>by simp[irC,IR.c,zC]
 | x :: L,i+1,h,c=>by
  have ih:=irC_setC (L:=L) (i:=i) (by simpa using h) c
  rw[irC_cons,List.set_append_right _ _ (by simp;omega),List.set_cons_succ,irC_cons]
  congr 1
  refine Eq.trans ?_ ih
  congr 1
  simp only[List.length_cons,List.length_nil];omega
theorem irC_setF:∀{L:List IR} {i:Nat} (h:i<L.length),((irC L).set (i*5+2) (.ext (.slice none 0 0))).set (i*5+3) (.ext (.slice none 0 0))=irC (L.set i (zF L[i]))
 | x :: L,0,_=>by simp[irC,IR.c,zF]
 | x :: L,i+1,h=>by
  have ih:=irC_setF (L:=L) (i:=i) (by simpa using h)
  rw[irC_cons,List.set_append_right _ _ (by simp;omega),List.set_append_right _ _ (by simp;omega),List.set_cons_succ,irC_cons]
  congr 1
  refine Eq.trans ?_ ih
  congr 1
  ·congr 1
   simp only[List.length_cons,List.length_nil];omega
  ·simp only[List.length_cons,List.length_nil];omega
theorem set2_take{α:Type}:∀(l:List α) (i:Nat) (a b:α),i+1<l.length→l.take i++a :: b :: l.drop (i+2)=(l.set i a).set (i+1) b
 | [],i,a,b,h=>by simp at h
 | [x],0,a,b,h=>by simp at h
 | x :: y :: l,0,a,b,h=>by simp
 | x :: l,i+1,a,b,h=>by
  have:=set2_take l i a b (by simpa using h)
  simpa using this
theorem irC_splF{L:List IR}{i:Nat}(h:i<L.length):(irC L).take (i*5+2)++AV.ext (.slice none 0 0) :: .ext (.slice none 0 0) :: (irC L).drop (i*5+2+2)=irC (L.set i (zF L[i])):=by
 rw[set2_take _ _ _ _ (by rw[irC_len];omega)]
 exact irC_setF h
theorem irC_part:∀{L:List IR} {i:Nat} (h:i<L.length),((irC L).drop (i*5)).take 5=[.ext (.string (bs L[i].pk)),.ext (.string (bs L[i].ts)),.ext L[i].u1,.ext L[i].u2,.ext (.int .i64 L[i].cost)]
 | x :: L,0,_=>by simp[irC,IR.c]
 | x :: L,i+1,h=>by
  have ih:=irC_part (L:=L) (i:=i) (by simpa using h)
  rw[irC_cons,List.drop_append,List.drop_eq_nil_of_le (by simp only[List.length_cons,List.length_nil];omega),List.nil_append]
  refine Eq.trans ?_ ih
  congr 2
  simp only[List.length_cons,List.length_nil];omega
theorem okIL_set{M:Mem}{L:List IR}{i:Nat}{x:IR}(h:okIL M L)(hx:x.ok M):okIL M (L.set i x):=fun y hy=>by
 rcases List.mem_or_eq_of_mem_set hy with h1|h1
 ·exact h y h1
 ·rw[h1];exact hx
section
variable {M:Mem}{K:AV→Hp→Mem→Prop}
theorem pick31q_ok(u:Value)(l:List Int)(p:Nat)(L:List Int)(hL:L.length=4)(hu:IsL M intV64 u l)(hp:p<1000000)(hK:∀x∈L,K (.ext (.int .i64 x)) [(31,25,[.ext u,.ext (.int .i64 ((p+1:Nat):Int))]),(49,3,cE intV64 L)] M) :
  CallS Try.prog 25 [.own 31 0,.slo 49 0 4 1] [(49,3,cE intV64 L),(31,25,[.ext u,.ext (.int .i64 ((p:Nat):Int))])] M [] K:=by
 refine inlS (cs:=[]) Try.mixed Try.func25 rfl (by kernel_rfl) 50 rfl rfl ?_
 simp only[Try.f25]
 (try with_reducible refine Fz.of ?_);(replace hb0:=true_and True);refine Go1.mk ?_;repeat' ((first|(with_reducible refine Go1.go ?_)|((with_reducible first|refine brv_mk ?_ ?_|refine gsplitD ?_ ?_|refine gsplitG ?_ ?_)<;>intro h<;>(try simp only[Bool.not_eq_true',Bool.not_eq_false']at h)<;>replace hb0:=h)|((with_reducible refine isCall (f:=18) ?_);refine callA ?_)|((with_reducible refine isCallS (f:=18) ?_);refine (nextI_ok 31 u l p 4 hu (by omega) (by omega) (by omega) (fun x hx0 hx1=>Stop.mk ?_)))|(refine And.intro ?_ ?_;(try simp only[sxO]at *);omega)|fail)<;>(try simp (maxSteps:=1000000) only [hb0,cE_ment,cE_len,cE_kill,hasK_nil,Nat.mul_one,hu.one,↓hold_pre,awayP,runOps,regK,step1,newK,genR,appR,obl,buildR,Value.cells,closeK,keepH,outV,retK,ret1,retC,RetV,Option.getD,runD,stepD,afterK,undef,simprocAttr,sxB,↓sxD,sxE,sxTab]))
 obtain ⟨j,rfl⟩:=Int.eq_ofNat_of_zero_le hx0
 have hj:j<L.length:=by omega
 have hat:=cE_at intV64 hj
 have hm:L[j]∈L:=List.getElem_mem hj
 have a1:(0:Int)≤(j:Int):=by omega
 have a2:(j:Int)<4:=by omega
 have a3:(j:Int)<((4:Nat):Int):=by omega
 generalize L[j]=y at *
 refine Stop.go ?_
 (try with_reducible refine Fz.of ?_);(replace hb0:=true_and True);refine Go1.mk ?_;repeat' ((first|(with_reducible refine Go1.go ?_)|((with_reducible first|refine brv_mk ?_ ?_|refine gsplitD ?_ ?_|refine gsplitG ?_ ?_)<;>intro h<;>(try simp only[Bool.not_eq_true',Bool.not_eq_false']at h)<;>replace hb0:=h)|(refine And.intro ?_ ?_;(try simp only[sxO]at *);omega)|fail)<;>(try simp (maxSteps:=1000000) only [hb0,cE_ment,cE_len,cE_kill,hasK_nil,Nat.mul_one,hu.one,hat,a1,a2,a3,intV64,↓hold_pre,awayP,runOps,regK,step1,newK,genR,appR,obl,buildR,Value.cells,closeK,keepH,outV,retK,ret1,retC,RetV,Option.getD,runD,stepD,afterK,undef,simprocAttr,sxB,↓sxD,sxE,sxTab]))
 exact hK _ hm
def ckP(M:Mem)(v0 v1:Value)(p n:Nat)(X:List IR):St:={env:=[(8,.slo 37 0 n 5),(7,.own 31 0),(1,.ext v1)],hp:=[(37,46,irC X),(31,25,[.ext v0,.ext (.int .i64 ((p:Nat):Int))])],M:=M,kb:=6,fx:=[]}
def ckQ(M:Mem)(v0 v1:Value)(p n:Nat)(L1 L2:List IR)(pk ts:Bst)(cost:Int)(A B:List Nat):St:={env:=[(8,.slo 37 0 n 5),(7,.own 31 0),(1,.ext v1)],hp:=[(37,46,opN L1 L2 pk ts cost A B),(5028,55,cE u32V A),(5020,55,cE u32V B),(31,25,[.ext v0,.ext (.int .i64 ((p:Nat):Int))])],M:=M,kb:=6,fx:=[]}
def ckL(M:Mem)(v0 v1:Value)(i p:Nat)(X:List IR):St:={env:=[(9,.ext (.int .i64 (i:Int))),(8,.slo 37 0 X.length 5),(7,.own 31 0),(1,.ext v1)],hp:=[(37,46,irC X),(31,25,[.ext v0,.ext (.int .i64 ((p:Nat):Int))])],M:=M,kb:=6,fx:=[]}
def ckB(M:Mem)(v0 v1 vx:Value)(i p:Nat):St:={env:=[(103,.ext (.int .i64 (i:Int))),(102,.ext (.int .i64 2)),(101,.slo 107 0 2 1),(7,.own 31 0)],hp:=[(107,26,[.ext v1,.ext vx]),(31,25,[.ext v0,.ext (.int .i64 ((p:Nat):Int))])],M:=M,kb:=6,fx:=[]}
def ckJ(M:Mem)(v0 v1:Value)(z:St):Prop:=
 (∃M' p X,Mem.le M M'∧okIL M' X∧p≤5000∧X.length≤65∧z=ckP M' v0 v1 p X.length X)∨
 (∃M' p L1 L2 pk ts cost A B n,Mem.le M M'∧okIL M' L1∧okIL M' L2∧okN A∧okN B∧A.length≤2∧B.length≤2∧0<cost∧cost≤1048576∧p≤5000∧n=L1.length+1+L2.length∧n≤65∧z=ckQ M' v0 v1 p n L1 L2 pk ts cost A B)
theorem ckJ_tail{B:St→Prop}{v0 v1:Value}(h:∀M' p X,Mem.le M M'→okIL M' X→p≤5000→X.length≤65→Fz (ckP M' v0 v1 p X.length X) B):∀z,ckJ M v0 v1 z→Fz z B:=by
 rintro z (⟨M1,p,X,m1,hX,hp,hl,rfl⟩|⟨M1,p,L1,L2,pk,ts,cost,A,B',n,m1,h1,h2,oA,oB,lA,lB,c0,c1,hp,hn,hl,rfl⟩)
 ·exact h M1 p X m1 hX hp hl
 refine Fz.bind (Fz.cellI (k:=5028) (j:=37) (p0:=L1.length*5+2) (n:=A.length) (q:=1) (off:=0) (T:=55) (T0:=46) (A.map u32V) [(8,.slo 37 0 n 5),(7,.own 31 0),(1,.ext v1)] [(5020,55,cE u32V B'),(31,25,[.ext v0,.ext (.int .i64 ((p:Nat):Int))])] rfl (opC_get ..) rfl (by rw[List.length_map];omega) (show 6≤5028 by decide) (by decide) ⟨rfl,rfl,rfl,trivial⟩ (by simp[mentE,AV.ment]) ⟨rfl,rfl,trivial⟩ (by simp[mentH,mentL,AV.ment,cE_ment]) (keepLt_of rfl) (fun j hj hj2=>?_) (fun M2 U1 m2 hU1 _=>?_))
 ·exfalso
  revert hj2
  have hj:j<6:=hj
  simp only[ckQ,lkH]
  rw[if_neg (by omega),if_neg (by omega),if_neg (by omega),if_neg (by omega)];simp
 have m2:Mem.le M1 M2:=m2
 show Fz {env:=_,hp:=(37,46,(opC L1 L2 pk ts cost _ _).set (L1.length*5+2) (.ext U1)) :: _,M:=M2,kb:=6,fx:=[],fr:=_} B
 rw[opC_setA]
 refine Fz.bind (Fz.cellI (k:=5020) (j:=37) (p0:=L1.length*5+3) (n:=B'.length) (q:=1) (off:=0) (T:=55) (T0:=46) (B'.map u32V) [(8,.slo 37 0 n 5),(7,.own 31 0),(1,.ext v1)] [(31,25,[.ext v0,.ext (.int .i64 ((p:Nat):Int))])] rfl (opC_get3 ..) rfl (by rw[List.length_map];omega) (show 6≤5020 by decide) (by decide) ⟨rfl,rfl,rfl,trivial⟩ (by simp[mentE,AV.ment]) ⟨rfl,trivial⟩ (by simp[mentH,mentL,AV.ment]) (keepLt_of rfl) (fun j hj hj2=>?_) (fun M3 U2 m3 hU2 _=>?_))
 ·exfalso
  revert hj2
  have hj:j<6:=hj
  simp only[lkH]
  rw[if_neg (by omega),if_neg (by omega),if_neg (by omega)];simp
 have m3:Mem.le M2 M3:=m3
 show Fz {env:=_,hp:=(37,46,(opC L1 L2 pk ts cost _ _).set (L1.length*5+3) (.ext U2)) :: _,M:=M3,kb:=6,fx:=[],fr:=_} B
 rw[opC_setB]
 rw[List.drop_zero,Nat.mul_one,List.take_of_length_le (by rw[List.length_map];omega)]at hU1 hU2
 have i1:IsL M2 u32V U1 A:=hU1
 have i2:IsL M3 u32V U2 B':=hU2
 have hx:(⟨pk,ts,U1,U2,A,B',cost⟩:IR).ok M3:=⟨⟨i1.le m3,i2,oA,oB,by simp only;omega,by simp only;omega⟩,by simp only;omega,by simp only;omega⟩
 have hk:=h M3 p (L1++⟨pk,ts,U1,U2,A,B',cost⟩ :: L2) (m1.trans (m2.trans m3)) (fun y hy=>by
  rcases List.mem_append.1 hy with hy|hy
  ·exact (h1 y hy).le (m2.trans m3)
  ·rcases List.mem_cons.1 hy with rfl|hy
   ·exact hx
   ·exact (h2 y hy).le (m2.trans m3)) hp (by simp;omega)
 have e1:(L1++⟨pk,ts,U1,U2,A,B',cost⟩ :: L2).length=n:=by simp;omega
 have e2:irC (L1++⟨pk,ts,U1,U2,A,B',cost⟩ :: L2)=opC L1 L2 pk ts cost (.ext U1) (.ext U2):=by simp[opC,irC,IR.c]
 unfold ckP at hk
 rw[e1,e2]at hk
 exact hk
theorem toI_len(Z:List Nat):(toI Z).length=Z.length:=by unfold toI;rw[List.length_map]
theorem errO_chk{L:List IR}{Z:List Nat}(h:Z.Perm (List.range L.length)):decide (errO L (toI Z)=0)=chkIL L:=by
 unfold errO
 rw[show permB L.length (toI Z)=true from permB_iff.2 (h.map _)]
 cases chkIL L<;>simp
theorem shareT{J:St→Prop}{B:St→Prop}{G:Prop}(h:(∀z,J z→Fz z B)→G)(t:∀z,J z→Fz z B):G:=h t
theorem foldN(at_:Int){n:Nat}(h:0<n)(h2:n<1000):∃i:Nat,foldI at_ n=(i:Int)∧i<n:=by
 obtain ⟨f1,f2⟩:=foldI_bd1 at_ n (by omega) (by omega)
 exact ⟨(foldI at_ n).toNat,by omega,by omega⟩
theorem ochecks29_ok(v0 v1:Value)(l0:List Int)(R:List IR)(at_:Int)(hl:IsL M intV64 v0 l0)(hu:IsR M 5 IR.c v1 R)(ho:okILw M R)(hK:∀M',Mem.le M M'→K (.ext (.bool true)) [] M'):CallS Try.prog 7 [.ext v0,.ext v1,.ext (.int .i64 at_)] [] M [] K:=by
 refine inlS (cs:=[19]) Try.mixed Try.func7 rfl (by kernel_rfl) 6 rfl rfl ?_
 simp only[Try.f7]
 have vo:=hl.one
 have uo:=hu.one
 have ul:=hu.len
 have us:=hu.sl
 by_cases hc1:100<R.length
 ·have d1:decide ((100:Int)<(R.length:Int))=true:=by rw[decide_eq_true_eq];omega
  (try with_reducible refine Fz.of ?_);(replace hb0:=true_and True);refine Go1.mk ?_;repeat' ((first|(with_reducible refine Go1.go ?_)|((with_reducible first|refine brv_mk ?_ ?_|refine gsplitD ?_ ?_|refine gsplitG ?_ ?_)<;>intro h<;>(try simp only[Bool.not_eq_true',Bool.not_eq_false']at h)<;>replace hb0:=h)|(((with_reducible refine isCall (f:=15) ?_);refine callA_nil (by kernel_rfl) ?_;refine (known29_ok (fun M1 m1=>Stop.mk ?_))))|(refine And.intro ?_ ?_;(try simp only[sxO]at *);omega)|fail)<;>(try simp (maxSteps:=1000000) only [hb0,uo,ul,us,vo,d1,gt_iff_lt,hasK_nil,↓hold_pre,awayP,runOps,regK,step1,newK,genR,appR,obl,buildR,Value.cells,closeK,keepH,outV,retK,ret1,retC,RetV,Option.getD,runD,stepD,afterK,undef,simprocAttr,sxB,↓sxD,sxE,sxTab]))
  refine Stop.go ?_
  (try with_reducible refine Fz.of ?_);(replace hb0:=true_and True);refine Go1.mk ?_;repeat' ((first|(with_reducible refine Go1.go ?_)|((with_reducible first|refine brv_mk ?_ ?_|refine gsplitD ?_ ?_|refine gsplitG ?_ ?_)<;>intro h<;>(try simp only[Bool.not_eq_true',Bool.not_eq_false']at h)<;>replace hb0:=h)|(refine And.intro ?_ ?_;(try simp only[sxO]at *);omega)|fail)<;>(try simp (maxSteps:=1000000) only [hb0,hasK_nil,↓hold_pre,awayP,runOps,regK,step1,newK,genR,appR,obl,buildR,Value.cells,closeK,keepH,outV,retK,ret1,retC,RetV,Option.getD,runD,stepD,afterK,undef,simprocAttr,sxB,↓sxD,sxE,sxTab]))
  exact hK _ m1
 have d1:decide ((100:Int)<(R.length:Int))=false:=by rw[decide_eq_false_iff_not];omega
 obtain ⟨f1,f2⟩:=foldI_bd1 (IntKind.i64.wrap (at_.tdiv 13)) 6 (by omega) (by omega)
 obtain ⟨c,hc⟩:∃c,c=foldI (IntKind.i64.wrap (at_.tdiv 13)) 6:=⟨_,rfl⟩
 rw[←hc]at f1 f2
 apply shareT (J:=ckJ M v0 v1)
 ·intro tl
  by_cases hq:c=2∨c=3
  ·(try with_reducible refine Fz.of ?_);(replace hb0:=true_and True);refine Go1.mk ?_;repeat' ((first|(with_reducible refine Go1.go ?_)|((with_reducible first|refine brv_mk ?_ ?_|refine gsplitD ?_ ?_|refine gsplitG ?_ ?_)<;>intro h<;>(try simp only[Bool.not_eq_true',Bool.not_eq_false']at h)<;>replace hb0:=h)|((with_reducible refine isCall (f:=10) ?_);refine callA ?_)|((with_reducible refine isCallS (f:=10) ?_);refine (itemsQ_ok (fun n=>(foldI at_ n).toNat) v0 l0 0 12 hl (by decide) (by decide) (fun n hn hm=>by obtain ⟨i,h1,h2⟩:=foldN at_ (n:=n) hn (by omega);simp only[h1];omega) (fun M1 p m1 hp=>Stop.mk ?_) (fun L1 L2 pk ts cost A B M1 p n m1 h1 h2 hAB hn hs hn12 hp=>Stop.mk ?_)))|(refine And.intro ?_ ?_;(try simp only[sxO]at *);omega)|fail)<;>(try simp (maxSteps:=1000000) only [hb0,uo,ul,us,vo,d1,gt_iff_lt,hasK_nil,↓hold_pre,awayP,runOps,regK,step1,newK,genR,appR,obl,buildR,Value.cells,closeK,keepH,outV,retK,ret1,retC,RetV,Option.getD,runD,stepD,afterK,undef,simprocAttr,sxB,↓sxD,sxE,sxTab]))
   ·have m1:Mem.le M M1:=m1
    have hp:p≤0+1000:=hp
    refine Stop.go ?_
    (try with_reducible refine Fz.of ?_);(replace hb0:=true_and True);refine Go1.mk ?_;repeat' ((first|(with_reducible refine Go1.go ?_)|((with_reducible first|refine brv_mk ?_ ?_|refine gsplitD ?_ ?_|refine gsplitG ?_ ?_)<;>intro h<;>(try simp only[Bool.not_eq_true',Bool.not_eq_false']at h)<;>replace hb0:=h)|(refine And.intro ?_ ?_;(try simp only[sxO]at *);omega)|fail)<;>(try simp (maxSteps:=1000000) only [hb0,irC_ment,irC_kill,uo,ul,us,vo,hasK_nil,↓hold_pre,awayP,runOps,regK,step1,newK,genR,appR,obl,buildR,Value.cells,closeK,keepH,outV,retK,ret1,retC,RetV,Option.getD,runD,stepD,afterK,undef,simprocAttr,sxB,↓sxD,sxE,sxTab]))
    refine ⟨ckJ M v0 v1,?_,tl⟩
    have d2:decide ((0:Int)<((0:Nat):Int))=false:=by decide
    (try with_reducible refine Fz.of ?_);(replace hb0:=true_and True);refine Go1.mk ?_;repeat' ((first|(with_reducible refine Go1.go ?_)|((with_reducible first|refine brv_mk ?_ ?_|refine gsplitD ?_ ?_|refine gsplitG ?_ ?_)<;>intro h<;>(try simp only[Bool.not_eq_true',Bool.not_eq_false']at h)<;>replace hb0:=h)|(refine And.intro ?_ ?_;(try simp only[sxO]at *);omega)|fail)<;>(try simp (maxSteps:=1000000) only [hb0,d2,gt_iff_lt,irC_ment,irC_kill,uo,ul,us,vo,hasK_nil,↓hold_pre,awayP,runOps,regK,step1,newK,genR,appR,obl,buildR,Value.cells,closeK,keepH,outV,retK,ret1,retC,RetV,Option.getD,runD,stepD,afterK,undef,simprocAttr,sxB,↓sxD,sxE,sxTab]))
    exact ⟨ckP M1 v0 v1 p 0 [],le_sub ⟨rfl,rfl,rfl,trivial⟩ ⟨rfl,rfl,trivial⟩ rfl rfl rfl (keepLt_of rfl),.inl ⟨M1,p,[],m1,(fun x hx=>by cases hx),by omega,by simp,rfl⟩⟩
   have m1:Mem.le M M1:=m1
   have hp:p≤0+1000:=hp
   have h1:∀x∈L1,ItOK M1 x:=h1
   have h2:∀x∈L2,ItOK M1 x:=h2
   have hAB:NumOK A B cost:=hAB
   have hn:n=L1.length+1+L2.length:=hn
   have hs:L1.length=(foldI at_ n).toNat:=hs
   have hn12:n≤12:=hn12
   obtain ⟨i,hi,hin⟩:=foldN at_ (n:=n) (by omega) (by omega)
   rw[hi,Int.toNat_natCast]at hs
   have lC:=opC_len L1 L2 pk ts cost (.slo 5028 0 A.length 1) (.slo 5020 0 B.length 1)
   have gA:=opC_get L1 L2 pk ts cost (.slo 5028 0 A.length 1) (.slo 5020 0 B.length 1)
   have gB:=opC_get3 L1 L2 pk ts cost (.slo 5028 0 A.length 1) (.slo 5020 0 B.length 1)
   have kA:=opC_killC 5028 L1 L2 pk ts cost (.slo 5028 0 A.length 1) (.slo 5020 0 B.length 1)
   have kB:=opC_killC 5020 L1 L2 pk ts cost (.slo 5028 0 A.length 1) (.slo 5020 0 B.length 1)
   have sA:=opC_setA L1 L2 pk ts cost .unk (.slo 5020 0 B.length 1) (.slo 5028 0 (A.length+1) 1)
   have sB:=opC_setB L1 L2 pk ts cost (.slo 5028 0 A.length 1) .unk (.slo 5020 0 (B.length+1) 1)
   have lA:=opC_len L1 L2 pk ts cost .unk (.slo 5020 0 B.length 1)
   have lB:=opC_len L1 L2 pk ts cost (.slo 5028 0 A.length 1) .unk
   have mC:=opC_ment L1 L2 pk ts cost (.slo 5028 0 A.length 1) (.slo 5020 0 B.length 1)
   have cA:=cE_len u32V A
   have cB:=cE_len u32V B
   have eA:cE u32V A++[.ext (.int .u32 1)]=cE u32V (A++[1]):=by simp[cE,u32V]
   have eB:cE u32V B++[.ext (.int .u32 7)]=cE u32V (B++[7]):=by simp[cE,u32V]
   rw[←hn]at lC lA lB
   rw[hs]at gA gB sA sB
   have z1:decide ((0:Int)<(n:Int))=true:=by rw[decide_eq_true_eq];omega
   have z2:(0:Int)≤(i:Int):=by omega
   have z3:(i:Int)<(n:Int):=by omega
   have z4:i*5+2<n*5:=by omega
   have z5:i*5+3<n*5:=by omega
   have z6:i*5+5≤n*5:=by omega
   have hla:=hAB.la
   have hlb:=hAB.lb
   refine Stop.go ?_
   (try with_reducible refine Fz.of ?_);(replace hb0:=true_and True);refine Go1.mk ?_;repeat' ((first|(with_reducible refine Go1.go ?_)|((with_reducible first|refine brv_mk ?_ ?_|refine gsplitD ?_ ?_|refine gsplitG ?_ ?_)<;>intro h<;>(try simp only[Bool.not_eq_true',Bool.not_eq_false']at h)<;>replace hb0:=h)|(refine And.intro ?_ ?_;(try simp only[sxO]at *);omega)|fail)<;>(try simp (maxSteps:=1000000) only [hb0,opN,mC,cE_ment,cE_kill,uo,ul,us,vo,hasK_nil,↓hold_pre,awayP,runOps,regK,step1,newK,genR,appR,obl,buildR,Value.cells,closeK,keepH,outV,retK,ret1,retC,RetV,Option.getD,runD,stepD,afterK,undef,simprocAttr,sxB,↓sxD,sxE,sxTab]))
   refine ⟨ckJ M v0 v1,?_,tl⟩
   (try with_reducible refine Fz.of ?_);(replace hb0:=true_and True);refine Go1.mk ?_;repeat' ((first|(with_reducible refine Go1.go ?_)|((with_reducible first|refine brv_mk ?_ ?_|refine gsplitD ?_ ?_|refine gsplitG ?_ ?_)<;>intro h<;>(try simp only[Bool.not_eq_true',Bool.not_eq_false']at h)<;>replace hb0:=h)|(((with_reducible refine isCall (f:=20) ?_);refine callA_nil (by kernel_rfl) ?_;refine (fold_ok _ _ (Stop.mk ?_))))|(refine And.intro ?_ ?_;(try simp only[sxO]at *);omega)|fail)<;>(try simp (maxSteps:=1000000) only [hb0,z1,gt_iff_lt,mC,lC,cE_ment,cE_kill,uo,ul,us,vo,hasK_nil,↓hold_pre,awayP,runOps,regK,step1,newK,genR,appR,obl,buildR,Value.cells,closeK,keepH,outV,retK,ret1,retC,RetV,Option.getD,runD,stepD,afterK,undef,simprocAttr,sxB,↓sxD,sxE,sxTab]))
   rw[hi]
   refine Stop.go ?_
   (try with_reducible refine Fz.of ?_);(replace hb0:=true_and True);refine Go1.mk ?_;repeat' ((first|(with_reducible refine Go1.go ?_)|((with_reducible first|refine brv_mk ?_ ?_|refine gsplitD ?_ ?_|refine gsplitG ?_ ?_)<;>intro h<;>(try simp only[Bool.not_eq_true',Bool.not_eq_false']at h)<;>replace hb0:=h)|(((with_reducible refine isCall (f:=20) ?_);refine callA_nil (by kernel_rfl) ?_;refine (fold_ok _ _ (Stop.mk ?_))))|(refine And.intro ?_ ?_;(try simp only[sxO]at *);omega)|fail)<;>(try simp (maxSteps:=1000000) only [hb0,mC,lC,cE_ment,cE_kill,uo,ul,us,vo,hasK_nil,↓hold_pre,awayP,runOps,regK,step1,newK,genR,appR,obl,buildR,Value.cells,closeK,keepH,outV,retK,ret1,retC,RetV,Option.getD,runD,stepD,afterK,undef,simprocAttr,sxB,↓sxD,sxE,sxTab]))
   rw[←hc]
   rcases hq with hq|hq
   ·subst hq
    refine Stop.go ?_
    (try with_reducible refine Fz.of ?_);(replace hb0:=true_and True);refine Go1.mk ?_;repeat' ((first|(with_reducible refine Go1.go ?_)|((with_reducible first|refine brv_mk ?_ ?_|refine gsplitD ?_ ?_|refine gsplitG ?_ ?_)<;>intro h<;>(try simp only[Bool.not_eq_true',Bool.not_eq_false']at h)<;>replace hb0:=h)|(refine And.intro ?_ ?_;(try simp only[sxO]at *);omega)|fail)<;>(try simp (maxSteps:=1000000) only [hb0,mC,kA,sA,lC,lA,gA,AV.kill,z2,z3,z4,z5,z6,maxLen,cA,eA,cE_ment,cE_kill,Nat.mul_one,uo,ul,us,vo,hasK_nil,↓hold_pre,awayP,runOps,regK,step1,newK,genR,appR,obl,buildR,Value.cells,closeK,keepH,outV,retK,ret1,retC,RetV,Option.getD,runD,stepD,afterK,undef,simprocAttr,sxB,↓sxD,sxE,sxTab]))
    have q1:(A++[1]).length=A.length+1:=by simp
    exact ⟨ckQ M1 v0 v1 p n L1 L2 pk ts cost (A++[1]) B,le_sub ⟨rfl,rfl,rfl,trivial⟩ ⟨by simp[lkH,opN,q1],by simp[lkH],by simp[lkH],by simp[lkH],trivial⟩ rfl rfl rfl (keepLt_of rfl),.inr ⟨M1,p,L1,L2,pk,ts,cost,A++[1],B,n,m1,(fun x hx=>(h1 x hx).ok),(fun x hx=>(h2 x hx).ok),(fun x hx=>by
     rcases List.mem_append.1 hx with hx|hx
     ·exact hAB.oa x hx
     ·rw[List.mem_singleton.1 hx];decide),hAB.ob,by omega,by omega,hAB.c0,hAB.c1,by omega,hn,by omega,rfl⟩⟩
   ·subst hq
    refine Stop.go ?_
    (try with_reducible refine Fz.of ?_);(replace hb0:=true_and True);refine Go1.mk ?_;repeat' ((first|(with_reducible refine Go1.go ?_)|((with_reducible first|refine brv_mk ?_ ?_|refine gsplitD ?_ ?_|refine gsplitG ?_ ?_)<;>intro h<;>(try simp only[Bool.not_eq_true',Bool.not_eq_false']at h)<;>replace hb0:=h)|(refine And.intro ?_ ?_;(try simp only[sxO]at *);omega)|fail)<;>(try simp (maxSteps:=1000000) only [hb0,mC,kB,sB,lC,lB,gB,AV.kill,z2,z3,z4,z5,z6,maxLen,cB,eB,cE_ment,cE_kill,Nat.mul_one,uo,ul,us,vo,hasK_nil,↓hold_pre,awayP,runOps,regK,step1,newK,genR,appR,obl,buildR,Value.cells,closeK,keepH,outV,retK,ret1,retC,RetV,Option.getD,runD,stepD,afterK,undef,simprocAttr,sxB,↓sxD,sxE,sxTab]))
    have q1:(B++[7]).length=B.length+1:=by simp
    exact ⟨ckQ M1 v0 v1 p n L1 L2 pk ts cost A (B++[7]),le_sub ⟨rfl,rfl,rfl,trivial⟩ ⟨by simp[lkH,opN,q1],by simp[lkH],by simp[lkH],by simp[lkH],trivial⟩ rfl rfl rfl (keepLt_of rfl),.inr ⟨M1,p,L1,L2,pk,ts,cost,A,B++[7],n,m1,(fun x hx=>(h1 x hx).ok),(fun x hx=>(h2 x hx).ok),hAB.oa,(fun x hx=>by
     rcases List.mem_append.1 hx with hx|hx
     ·exact hAB.ob x hx
     ·rw[List.mem_singleton.1 hx];decide),by omega,by omega,hAB.c0,hAB.c1,by omega,hn,by omega,rfl⟩⟩
  ·(try with_reducible refine Fz.of ?_);(replace hb0:=true_and True);refine Go1.mk ?_;repeat' ((first|(with_reducible refine Go1.go ?_)|((with_reducible first|refine brv_mk ?_ ?_|refine gsplitD ?_ ?_|refine gsplitG ?_ ?_)<;>intro h<;>(try simp only[Bool.not_eq_true',Bool.not_eq_false']at h)<;>replace hb0:=h)|((with_reducible refine isCall (f:=10) ?_);refine callA ?_)|((with_reducible refine isCallS (f:=10) ?_);refine (itemsP_ok v0 l0 0 12 hl (by decide) (by decide) (fun X M1 p m1 hX hX12 hp=>Stop.mk ?_)))|(refine And.intro ?_ ?_;(try simp only[sxO]at *);omega)|fail)<;>(try simp (maxSteps:=1000000) only [hb0,uo,ul,us,vo,d1,gt_iff_lt,hasK_nil,↓hold_pre,awayP,runOps,regK,step1,newK,genR,appR,obl,buildR,Value.cells,closeK,keepH,outV,retK,ret1,retC,RetV,Option.getD,runD,stepD,afterK,undef,simprocAttr,sxB,↓sxD,sxE,sxTab]))
   have m1:Mem.le M M1:=m1
   have hp:p≤0+1000:=hp
   have hX:∀x∈X,ItOK M1 x:=hX
   have hX12:X.length≤12:=hX12
   have okX:okIL M1 X:=fun x hx=>(hX x hx).ok
   have lX:=irC_len X
   have hl1:=hl.le m1
   refine Stop.go ?_
   (try with_reducible refine Fz.of ?_);(replace hb0:=true_and True);refine Go1.mk ?_;repeat' ((first|(with_reducible refine Go1.go ?_)|((with_reducible first|refine brv_mk ?_ ?_|refine gsplitD ?_ ?_|refine gsplitG ?_ ?_)<;>intro h<;>(try simp only[Bool.not_eq_true',Bool.not_eq_false']at h)<;>replace hb0:=h)|(refine And.intro ?_ ?_;(try simp only[sxO]at *);omega)|fail)<;>(try simp (maxSteps:=1000000) only [hb0,irC_ment,irC_kill,uo,ul,us,vo,hasK_nil,↓hold_pre,awayP,runOps,regK,step1,newK,genR,appR,obl,buildR,Value.cells,closeK,keepH,outV,retK,ret1,retC,RetV,Option.getD,runD,stepD,afterK,undef,simprocAttr,sxB,↓sxD,sxE,sxTab]))
   refine ⟨ckJ M v0 v1,?_,tl⟩
   by_cases h0:0<X.length
   case neg=>
    have z1:decide ((0:Int)<(X.length:Int))=false:=by rw[decide_eq_false_iff_not];omega
    (try with_reducible refine Fz.of ?_);(replace hb0:=true_and True);refine Go1.mk ?_;repeat' ((first|(with_reducible refine Go1.go ?_)|((with_reducible first|refine brv_mk ?_ ?_|refine gsplitD ?_ ?_|refine gsplitG ?_ ?_)<;>intro h<;>(try simp only[Bool.not_eq_true',Bool.not_eq_false']at h)<;>replace hb0:=h)|(refine And.intro ?_ ?_;(try simp only[sxO]at *);omega)|fail)<;>(try simp (maxSteps:=1000000) only [hb0,z1,gt_iff_lt,irC_ment,irC_kill,uo,ul,us,vo,hasK_nil,↓hold_pre,awayP,runOps,regK,step1,newK,genR,appR,obl,buildR,Value.cells,closeK,keepH,outV,retK,ret1,retC,RetV,Option.getD,runD,stepD,afterK,undef,simprocAttr,sxB,↓sxD,sxE,sxTab]))
    exact ⟨ckP M1 v0 v1 p X.length X,le_sub ⟨rfl,rfl,rfl,trivial⟩ ⟨rfl,rfl,trivial⟩ rfl rfl rfl (keepLt_of rfl),.inl ⟨M1,p,X,m1,okX,by omega,by omega,rfl⟩⟩
   have z1:decide ((0:Int)<(X.length:Int))=true:=by rw[decide_eq_true_eq];omega
   obtain ⟨i,hi,hin⟩:=foldN at_ (n:=X.length) h0 (by omega)
   have z2:(0:Int)≤(i:Int):=by omega
   have z3:(i:Int)<(X.length:Int):=by omega
   (try with_reducible refine Fz.of ?_);(replace hb0:=true_and True);refine Go1.mk ?_;repeat' ((first|(with_reducible refine Go1.go ?_)|((with_reducible first|refine brv_mk ?_ ?_|refine gsplitD ?_ ?_|refine gsplitG ?_ ?_)<;>intro h<;>(try simp only[Bool.not_eq_true',Bool.not_eq_false']at h)<;>replace hb0:=h)|(((with_reducible refine isCall (f:=20) ?_);refine callA_nil (by kernel_rfl) ?_;refine (fold_ok _ _ (Stop.mk ?_))))|(refine And.intro ?_ ?_;(try simp only[sxO]at *);omega)|fail)<;>(try simp (maxSteps:=1000000) only [hb0,z1,gt_iff_lt,lX,irC_ment,irC_kill,uo,ul,us,vo,hasK_nil,↓hold_pre,awayP,runOps,regK,step1,newK,genR,appR,obl,buildR,Value.cells,closeK,keepH,outV,retK,ret1,retC,RetV,Option.getD,runD,stepD,afterK,undef,simprocAttr,sxB,↓sxD,sxE,sxTab]))
   rw[hi]
   refine Stop.go ?_
   (try with_reducible refine Fz.of ?_);(replace hb0:=true_and True);refine Go1.mk ?_;repeat' ((first|(with_reducible refine Go1.go ?_)|((with_reducible first|refine brv_mk ?_ ?_|refine gsplitD ?_ ?_|refine gsplitG ?_ ?_)<;>intro h<;>(try simp only[Bool.not_eq_true',Bool.not_eq_false']at h)<;>replace hb0:=h)|(((with_reducible refine isCall (f:=20) ?_);refine callA_nil (by kernel_rfl) ?_;refine (fold_ok _ _ (Stop.mk ?_))))|(refine And.intro ?_ ?_;(try simp only[sxO]at *);omega)|fail)<;>(try simp (maxSteps:=1000000) only [hb0,lX,irC_ment,irC_kill,uo,ul,us,vo,hasK_nil,↓hold_pre,awayP,runOps,regK,step1,newK,genR,appR,obl,buildR,Value.cells,closeK,keepH,outV,retK,ret1,retC,RetV,Option.getD,runD,stepD,afterK,undef,simprocAttr,sxB,↓sxD,sxE,sxTab]))
   rw[←hc]
   rcases (show c=0∨c=1∨c=4∨c=5 by omega) with rfl|rfl|rfl|rfl
   ·have hc4:[AV.ext (.int .i64 0),.ext (.int .i64 (-1)),.ext (.int .i64 1048576),.ext (.int .i64 1048577)]=cE intV64 [0,-1,1048576,1048577]:=rfl
    refine Stop.go ?_
    (try with_reducible refine Fz.of ?_);(replace hb0:=true_and True);refine Go1.mk ?_;repeat' ((first|(with_reducible refine Go1.go ?_)|((with_reducible first|refine brv_mk ?_ ?_|refine gsplitD ?_ ?_|refine gsplitG ?_ ?_)<;>intro h<;>(try simp only[Bool.not_eq_true',Bool.not_eq_false']at h)<;>replace hb0:=h)|((with_reducible refine isCall (f:=25) ?_);refine callA ?_)|((with_reducible refine isCallS (f:=25) ?_);refine (pick31q_ok v0 l0 p [0,-1,1048576,1048577] rfl hl1 (by omega) (fun y hy=>Stop.mk ?_)))|(refine And.intro ?_ ?_;(try simp only[sxO]at *);omega)|fail)<;>(try simp (maxSteps:=1000000) only [hb0,hc4,lX,cE_ment,cE_kill,irC_ment,irC_kill,uo,ul,us,vo,hasK_nil,↓hold_pre,awayP,runOps,regK,step1,newK,genR,appR,obl,buildR,Value.cells,closeK,keepH,outV,retK,ret1,retC,RetV,Option.getD,runD,stepD,afterK,undef,simprocAttr,sxB,↓sxD,sxE,sxTab]))
    have hy:y∈([0,-1,1048576,1048577]:List Int):=hy
    have hy2 : -1≤y∧y≤1048577:=by
     simp only[List.mem_cons,List.not_mem_nil,or_false]at hy
     omega
    have hse:=irC_setC hin y
    have z4:i*5+4<X.length*5:=by omega
    have hxo:=okX _ (List.getElem_mem hin)
    refine Stop.go ?_
    (try with_reducible refine Fz.of ?_);(replace hb0:=true_and True);refine Go1.mk ?_;repeat' ((first|(with_reducible refine Go1.go ?_)|((with_reducible first|refine brv_mk ?_ ?_|refine gsplitD ?_ ?_|refine gsplitG ?_ ?_)<;>intro h<;>(try simp only[Bool.not_eq_true',Bool.not_eq_false']at h)<;>replace hb0:=h)|(refine And.intro ?_ ?_;(try simp only[sxO]at *);omega)|fail)<;>(try simp (maxSteps:=1000000) only [hb0,z2,z3,z4,lX,hse,cE_ment,cE_kill,Nat.zero_add,irC_ment,irC_kill,uo,ul,us,vo,hasK_nil,↓hold_pre,awayP,runOps,regK,step1,newK,genR,appR,obl,buildR,Value.cells,closeK,keepH,outV,retK,ret1,retC,RetV,Option.getD,runD,stepD,afterK,undef,simprocAttr,sxB,↓sxD,sxE,sxTab]))
    exact ⟨ckP M1 v0 v1 (p+1) (X.set i (zC X[i] y)).length (X.set i (zC X[i] y)),le_sub ⟨by rw[List.length_set];rfl,rfl,rfl,trivial⟩ ⟨by simp[lkH],by simp[lkH],trivial⟩ rfl rfl rfl (keepLt_of rfl),.inl ⟨M1,p+1,X.set i (zC X[i] y),m1,okIL_set okX (zC_ok hxo (by omega) (by omega)),by omega,by rw[List.length_set];omega,rfl⟩⟩
   ·have hse:=irC_splF hin
    have z4:i*5+2<X.length*5:=by omega
    have z5:i*5+3<X.length*5:=by omega
    have z6:i*5+5≤X.length*5:=by omega
    have hxo:=okX _ (List.getElem_mem hin)
    refine Stop.go ?_
    (try with_reducible refine Fz.of ?_);(replace hb0:=true_and True);refine Go1.mk ?_;repeat' ((first|(with_reducible refine Go1.go ?_)|((with_reducible first|refine brv_mk ?_ ?_|refine gsplitD ?_ ?_|refine gsplitG ?_ ?_)<;>intro h<;>(try simp only[Bool.not_eq_true',Bool.not_eq_false']at h)<;>replace hb0:=h)|(refine And.intro ?_ ?_;(try simp only[sxO]at *);omega)|fail)<;>(try simp (maxSteps:=1000000) only [hb0,z2,z3,z4,z5,z6,lX,hse,Nat.zero_add,irC_ment,irC_kill,uo,ul,us,vo,hasK_nil,↓hold_pre,awayP,runOps,regK,step1,newK,genR,appR,obl,buildR,Value.cells,closeK,keepH,outV,retK,ret1,retC,RetV,Option.getD,runD,stepD,afterK,undef,simprocAttr,sxB,↓sxD,sxE,sxTab]))
    exact ⟨ckP M1 v0 v1 p (X.set i (zF X[i])).length (X.set i (zF X[i])),le_sub ⟨by rw[List.length_set];rfl,rfl,rfl,trivial⟩ ⟨by simp[lkH],by simp[lkH],trivial⟩ rfl rfl rfl (keepLt_of rfl),.inl ⟨M1,p,X.set i (zF X[i]),m1,okIL_set okX (zF_ok hxo),by omega,by rw[List.length_set];omega,rfl⟩⟩
   ·refine Stop.go ?_
    (try with_reducible refine Fz.of ?_);(replace hb0:=true_and True);refine Go1.mk ?_;repeat' ((first|(with_reducible refine Go1.go ?_)|((with_reducible first|refine brv_mk ?_ ?_|refine gsplitD ?_ ?_|refine gsplitG ?_ ?_)<;>intro h<;>(try simp only[Bool.not_eq_true',Bool.not_eq_false']at h)<;>replace hb0:=h)|(refine And.intro ?_ ?_;(try simp only[sxO]at *);omega)|fail)<;>(try simp (maxSteps:=1000000) only [hb0,irC_ment,irC_kill,uo,ul,us,vo,hasK_nil,↓hold_pre,awayP,runOps,regK,step1,newK,genR,appR,obl,buildR,Value.cells,closeK,keepH,outV,retK,ret1,retC,RetV,Option.getD,runD,stepD,afterK,undef,simprocAttr,sxB,↓sxD,sxE,sxTab]))
    refine ⟨fun d z=>∃p' X',d=65-X'.length∧X.length≤X'.length∧X'.length≤65∧p'+X.length≤p+X'.length∧okIL M1 X'∧z=ckL M1 v0 v1 i p' X',⟨_,ckL M1 v0 v1 i p X,le_sub ⟨rfl,rfl,rfl,rfl,trivial⟩ ⟨by simp[lkH],by simp[lkH],trivial⟩ rfl rfl rfl (keepLt_of rfl),p,X,rfl,by omega,by omega,by omega,okX,rfl⟩,?_⟩
    rintro d z ⟨p2,X',rfl,hl1',hl2,hp2,okX',rfl⟩
    (try with_reducible refine Fz.of ?_);(replace hb0:=true_and True);refine Go1.mk ?_;repeat' ((first|(with_reducible refine Go1.go ?_)|((with_reducible first|refine brv_mk ?_ ?_|refine gsplitD ?_ ?_|refine gsplitG ?_ ?_)<;>intro h<;>(try simp only[Bool.not_eq_true',Bool.not_eq_false']at h)<;>replace hb0:=h)|((with_reducible refine isCall (f:=18) ?_);refine callA ?_)|((with_reducible refine isCallS (f:=18) ?_);refine (nextI_ok 31 v0 l0 p2 2 hl1 (by omega) (by omega) (by omega) (fun y hy0 hy1=>Stop.mk ?_)))|(refine And.intro ?_ ?_;(try simp only[sxO]at *);omega)|fail)<;>(try simp (maxSteps:=1000000) only [hb0,ckL,irC_ment,irC_kill,uo,ul,us,vo,hasK_nil,↓hold_pre,awayP,runOps,regK,step1,newK,genR,appR,obl,buildR,Value.cells,closeK,keepH,outV,retK,ret1,retC,RetV,Option.getD,runD,stepD,afterK,undef,simprocAttr,sxB,↓sxD,sxE,sxTab]))
    have w1:IntKind.i64.wrap (64+y)=64+y:=wrap_id (by omega) (by omega)
    by_cases hlt:(X'.length:Int)<64+y
    case neg=>
     have d2:decide ((X'.length:Int)<64+y)=false:=decide_eq_false hlt
     refine Stop.go ?_
     (try with_reducible refine Fz.of ?_);(replace hb0:=true_and True);refine Go1.mk ?_;repeat' ((first|(with_reducible refine Go1.go ?_)|((with_reducible first|refine brv_mk ?_ ?_|refine gsplitD ?_ ?_|refine gsplitG ?_ ?_)<;>intro h<;>(try simp only[Bool.not_eq_true',Bool.not_eq_false']at h)<;>replace hb0:=h)|(refine And.intro ?_ ?_;(try simp only[sxO]at *);omega)|fail)<;>(try simp (maxSteps:=1000000) only [hb0,w1,d2,irC_ment,irC_kill,uo,ul,us,vo,hasK_nil,↓hold_pre,awayP,runOps,regK,step1,newK,genR,appR,obl,buildR,Value.cells,closeK,keepH,outV,retK,ret1,retC,RetV,Option.getD,runD,stepD,afterK,undef,simprocAttr,sxB,↓sxD,sxE,sxTab]))
     exact ⟨ckP M1 v0 v1 (p2+1) X'.length X',le_sub ⟨rfl,rfl,rfl,trivial⟩ ⟨by simp[lkH],by simp[lkH],trivial⟩ rfl rfl rfl (keepLt_of rfl),.inl ⟨M1,p2+1,X',m1,okX',by omega,by omega,rfl⟩⟩
    have d2:decide ((X'.length:Int)<64+y)=true:=decide_eq_true hlt
    have hle2:=irC_len X'
    have hin2:i*5+5≤X'.length*5:=by omega
    have hpt:=irC_part (L:=X') (i:=i) (by omega)
    have happ:=irC_app X' (X'[i]'(by omega))
    have hxo:=okX' _ (List.getElem_mem (show i<X'.length by omega))
    have b3:(i:Int)<(X'.length:Int):=by omega
    have hln:(X'++[X'[i]'(by omega)]).length=X'.length+1:=by simp
    generalize X'[i]'(by omega)=xi at *
    have o1:=hxo.f.n.one
    have o2:=hxo.f.d.one
    refine Stop.go ?_
    (try with_reducible refine Fz.of ?_);(replace hb0:=true_and True);refine Go1.mk ?_;repeat' ((first|(with_reducible refine Go1.go ?_)|((with_reducible first|refine brv_mk ?_ ?_|refine gsplitD ?_ ?_|refine gsplitG ?_ ?_)<;>intro h<;>(try simp only[Bool.not_eq_true',Bool.not_eq_false']at h)<;>replace hb0:=h)|(refine And.intro ?_ ?_;(try simp only[sxO]at *);omega)|fail)<;>(try simp (maxSteps:=1000000) only [hb0,w1,d2,z2,b3,hle2,hin2,hpt,happ,o1,o2,Nat.zero_add,maxLen,irC_ment,irC_kill,uo,ul,us,vo,hasK_nil,↓hold_pre,awayP,runOps,regK,step1,newK,genR,appR,obl,buildR,Value.cells,closeK,keepH,outV,retK,ret1,retC,RetV,Option.getD,runD,stepD,afterK,undef,simprocAttr,sxB,↓sxD,sxE,sxTab]))
    exact ⟨65-(X'++[xi]).length,ckL M1 v0 v1 i (p2+1) (X'++[xi]),by omega,le_sub ⟨rfl,by rw[hln];rfl,rfl,rfl,trivial⟩ ⟨by simp[lkH],by simp[lkH],trivial⟩ rfl rfl rfl (keepLt_of rfl),p2+1,_,rfl,by omega,by omega,by omega,(fun x hx=>by
     rcases List.mem_append.1 hx with hx|hx
     ·exact okX' x hx
     ·rw[List.mem_singleton.1 hx];exact hxo),rfl⟩
   ·refine Stop.go ?_
    (try with_reducible refine Fz.of ?_);(replace hb0:=true_and True);refine Go1.mk ?_;repeat' ((first|(with_reducible refine Go1.go ?_)|((with_reducible first|refine brv_mk ?_ ?_|refine gsplitD ?_ ?_|refine gsplitG ?_ ?_)<;>intro h<;>(try simp only[Bool.not_eq_true',Bool.not_eq_false']at h)<;>replace hb0:=h)|(refine And.intro ?_ ?_;(try simp only[sxO]at *);omega)|fail)<;>(try simp (maxSteps:=1000000) only [hb0,irC_ment,irC_kill,uo,ul,us,vo,hasK_nil,↓hold_pre,awayP,runOps,regK,step1,newK,genR,appR,obl,buildR,Value.cells,closeK,keepH,outV,retK,ret1,retC,RetV,Option.getD,runD,stepD,afterK,undef,simprocAttr,sxB,↓sxD,sxE,sxTab]))
    exact ⟨ckP M1 v0 v1 p X.length X,le_sub ⟨rfl,rfl,rfl,trivial⟩ ⟨by simp[lkH],by simp[lkH],trivial⟩ rfl rfl rfl (keepLt_of rfl),.inl ⟨M1,p,X,m1,okX,by omega,by omega,rfl⟩⟩
 ·refine ckJ_tail fun M1 p X m1 okX hp hX65=>?_
  refine Fz.flat (k:=37) (n:=X.length) (w:=5) (T:=46) 8 (X.flatMap IR.c) [(7,.own 31 0),(1,.ext v1)] [(31,25,[.ext v0,.ext (.int .i64 ((p:Nat):Int))])] rfl rfl (by rw[flat_len (z:=5) (fun _=>rfl)]) (show 6≤37 by decide) ⟨rfl,rfl,trivial⟩ rfl ⟨rfl,trivial⟩ rfl (keepLt_of rfl) (fun j hj hj2=>?_) (fun M2 vx m2 hvx _=>?_)
  ·exfalso
   revert hj2
   have hj:j<6:=hj
   simp only[ckP,lkH]
   rw[if_neg (by omega),if_neg (by omega)];simp
  have m2:Mem.le M1 M2:=m2
  have hx2:IsR M2 5 IR.c vx X:=hvx
  have m12:=m1.trans m2
  have xo:=hx2.one
  have ho2:=ho.le m12
  have hu2:=hu.le m12
  have hX2:okILw M2 X:=fun x hx=>((okX x hx).le m2).w
  (try with_reducible refine Fz.of ?_);(replace hb0:=true_and True);refine Go1.mk ?_;repeat' ((first|(with_reducible refine Go1.go ?_)|((with_reducible first|refine brv_mk ?_ ?_|refine gsplitD ?_ ?_|refine gsplitG ?_ ?_)<;>intro h<;>(try simp only[Bool.not_eq_true',Bool.not_eq_false']at h)<;>replace hb0:=h)|(refine And.intro ?_ ?_;(try simp only[sxO]at *);omega)|fail)<;>(try simp (maxSteps:=1000000) only [hb0,ckP,xo,uo,ul,us,vo,hasK_nil,↓hold_pre,awayP,runOps,regK,step1,newK,genR,appR,obl,buildR,Value.cells,closeK,keepH,outV,retK,ret1,retC,RetV,Option.getD,runD,stepD,afterK,undef,simprocAttr,sxB,↓sxD,sxE,sxTab]))
  refine ⟨fun d z=>∃M' i p',d=2-i∧i≤2∧Mem.le M2 M'∧p'≤5000+i*200∧z=ckB M' v0 v1 vx i p',⟨2,ckB M2 v0 v1 vx 0 p,le_sub ⟨rfl,rfl,rfl,rfl,trivial⟩ ⟨rfl,rfl,trivial⟩ rfl rfl rfl (keepLt_of rfl),M2,0,p,rfl,by omega,Mem.le.refl _,by omega,rfl⟩,?_⟩
  rintro d z ⟨M3,i,p,rfl,hi,m3,hp,rfl⟩
  by_cases hi2:i<2
  case neg=>
   obtain rfl:i=2:=by omega
   (try with_reducible refine Fz.of ?_);(replace hb0:=true_and True);refine Go1.mk ?_;repeat' ((first|(with_reducible refine Go1.go ?_)|((with_reducible first|refine brv_mk ?_ ?_|refine gsplitD ?_ ?_|refine gsplitG ?_ ?_)<;>intro h<;>(try simp only[Bool.not_eq_true',Bool.not_eq_false']at h)<;>replace hb0:=h)|(((with_reducible refine isCall (f:=15) ?_);refine callA_nil (by kernel_rfl) ?_;refine (known29_ok (fun M4 m4=>Stop.mk ?_))))|(refine And.intro ?_ ?_;(try simp only[sxO]at *);omega)|fail)<;>(try simp (maxSteps:=1000000) only [hb0,ckB,xo,uo,ul,us,vo,hasK_nil,↓hold_pre,awayP,runOps,regK,step1,newK,genR,appR,obl,buildR,Value.cells,closeK,keepH,outV,retK,ret1,retC,RetV,Option.getD,runD,stepD,afterK,undef,simprocAttr,sxB,↓sxD,sxE,sxTab]))
   refine Stop.go ?_
   (try with_reducible refine Fz.of ?_);(replace hb0:=true_and True);refine Go1.mk ?_;repeat' ((first|(with_reducible refine Go1.go ?_)|((with_reducible first|refine brv_mk ?_ ?_|refine gsplitD ?_ ?_|refine gsplitG ?_ ?_)<;>intro h<;>(try simp only[Bool.not_eq_true',Bool.not_eq_false']at h)<;>replace hb0:=h)|(refine And.intro ?_ ?_;(try simp only[sxO]at *);omega)|fail)<;>(try simp (maxSteps:=1000000) only [hb0,hasK_nil,↓hold_pre,awayP,runOps,regK,step1,newK,genR,appR,obl,buildR,Value.cells,closeK,keepH,outV,retK,ret1,retC,RetV,Option.getD,runD,stepD,afterK,undef,simprocAttr,sxB,↓sxD,sxE,sxTab]))
   exact hK _ (m12.trans (m3.trans m4))
  obtain ⟨v,Y,hY,hYo,hYl,hat⟩:∃v Y,IsR M3 5 IR.c v Y∧okILw M3 Y∧Y.length≤100∧[AV.ext v1,.ext vx][i]? = some (.ext v):=by
   rcases (show i=0∨i=1 by omega) with rfl|rfl
   ·exact ⟨v1,R,hu2.le m3,ho2.le m3,by omega,rfl⟩
   ·exact ⟨vx,X,hx2.le m3,hX2.le m3,by omega,rfl⟩
  have c1:decide ((i:Int)<2)=true:=by rw[decide_eq_true_eq];omega
  have z2:(0:Int)≤(i:Int):=by omega
  have z3:(i:Int)<2:=by omega
  have wi:IntKind.i64.wrap ((i:Int)+1)=((i+1:Nat):Int):=succ_i (by omega)
  have yo:=hY.one
  (try with_reducible refine Fz.of ?_);(replace hb0:=true_and True);refine Go1.mk ?_;repeat' ((first|(with_reducible refine Go1.go ?_)|((with_reducible first|refine brv_mk ?_ ?_|refine gsplitD ?_ ?_|refine gsplitG ?_ ?_)<;>intro h<;>(try simp only[Bool.not_eq_true',Bool.not_eq_false']at h)<;>replace hb0:=h)|(((with_reducible refine isCall (f:=26) ?_);refine callA_nil (by kernel_rfl) ?_;refine (rcheck29W_ok hY hYo (by omega) (fun M4 m4=>Stop.mk ?_))))|(refine And.intro ?_ ?_;(try simp only[sxO]at *);omega)|fail)<;>(try simp (maxSteps:=1000000) only [hb0,ckB,c1,z2,z3,hi2,hat,Nat.mul_one,yo,xo,uo,ul,us,vo,hasK_nil,↓hold_pre,awayP,runOps,regK,step1,newK,genR,appR,obl,buildR,Value.cells,closeK,keepH,outV,retK,ret1,retC,RetV,Option.getD,runD,stepD,afterK,undef,simprocAttr,sxB,↓sxD,sxE,sxTab]))
  have m4:Mem.le M3 M4:=m4
  have hY4:=hY.le m4
  have hYo4:=hYo.le m4
  refine Stop.go ?_
  (try with_reducible refine Fz.of ?_);(replace hb0:=true_and True);refine Go1.mk ?_;repeat' ((first|(with_reducible refine Go1.go ?_)|((with_reducible first|refine brv_mk ?_ ?_|refine gsplitD ?_ ?_|refine gsplitG ?_ ?_)<;>intro h<;>(try simp only[Bool.not_eq_true',Bool.not_eq_false']at h)<;>replace hb0:=h)|(((with_reducible refine isCall (f:=11) ?_);refine callA_nil (by kernel_rfl) ?_;refine (orderW_ok hY4 hYo4 (by omega) (fun w0 M5 m5 wo=>Stop.mk ?_))))|(refine And.intro ?_ ?_;(try simp only[sxO]at *);omega)|fail)<;>(try simp (maxSteps:=1000000) only [hb0,yo,xo,uo,ul,us,vo,hasK_nil,↓hold_pre,awayP,runOps,regK,step1,newK,genR,appR,obl,buildR,Value.cells,closeK,keepH,outV,retK,ret1,retC,RetV,Option.getD,runD,stepD,afterK,undef,simprocAttr,sxB,↓sxD,sxE,sxTab]))
  have m5:Mem.le M4 M5:=m5
  have hY5:=hY4.le m5
  have hYo5:=hYo4.le m5
  have hl5:=hl.le (m12.trans (m3.trans (m4.trans m5)))
  have yl:=hY5.len
  have ys:=hY5.sl
  refine Stop.go ?_
  (try with_reducible refine Fz.of ?_);(replace hb0:=true_and True);refine Go1.mk ?_;repeat' ((first|(with_reducible refine Go1.go ?_)|((with_reducible first|refine brv_mk ?_ ?_|refine gsplitD ?_ ?_|refine gsplitG ?_ ?_)<;>intro h<;>(try simp only[Bool.not_eq_true',Bool.not_eq_false']at h)<;>replace hb0:=h)|((with_reducible refine isCall (f:=13) ?_);refine callA ?_)|((with_reducible refine isCallS (f:=13) ?_);refine (shuf31_ok v0 l0 p Y.length hl5 (by omega) (by omega) (fun q1 Z1 M6 m6 hZ1 hq1 _=>Stop.mk ?_)))|(refine And.intro ?_ ?_;(try simp only[sxO]at *);omega)|fail)<;>(try simp (maxSteps:=1000000) only [hb0,wo,yo,yl,ys,xo,uo,ul,us,vo,hasK_nil,↓hold_pre,awayP,runOps,regK,step1,newK,genR,appR,obl,buildR,Value.cells,closeK,keepH,outV,retK,ret1,retC,RetV,Option.getD,runD,stepD,afterK,undef,simprocAttr,sxB,↓sxD,sxE,sxTab]))
  have m6:Mem.le M5 M6:=m6
  have hZ1:Z1.Perm (List.range Y.length):=hZ1
  have hz1:(toI Z1).length<1000000:=by rw[toI_len,hZ1.length_eq,List.length_range];omega
  have hq1:IsL M6 intV64 q1 (toI Z1):=hq1
  have hY6:=hY5.le m6
  have hYo6:=hYo5.le m6
  have q1o:=hq1.one
  refine Stop.go ?_
  (try with_reducible refine Fz.of ?_);(replace hb0:=true_and True);refine Go1.mk ?_;repeat' ((first|(with_reducible refine Go1.go ?_)|((with_reducible first|refine brv_mk ?_ ?_|refine gsplitD ?_ ?_|refine gsplitG ?_ ?_)<;>intro h<;>(try simp only[Bool.not_eq_true',Bool.not_eq_false']at h)<;>replace hb0:=h)|(((with_reducible refine isCall (f:=12) ?_);refine callA_nil (by kernel_rfl) ?_;refine (lossW_ok hY6 hYo6 (by omega) hq1 hz1 (fun a1 a2 M7 m7 a1o a2o=>Stop.mk ?_))))|(refine And.intro ?_ ?_;(try simp only[sxO]at *);omega)|fail)<;>(try simp (maxSteps:=1000000) only [hb0,wo,yo,yl,ys,xo,q1o,uo,ul,us,vo,hasK_nil,↓hold_pre,awayP,runOps,regK,step1,newK,genR,appR,obl,buildR,Value.cells,closeK,keepH,outV,retK,ret1,retC,RetV,Option.getD,runD,stepD,afterK,undef,simprocAttr,sxB,↓sxD,sxE,sxTab]))
  have m7:Mem.le M6 M7:=m7
  have hY7:=hY6.le m7
  have hYo7:=hYo6.le m7
  have hl7:=hl5.le (m6.trans m7)
  refine Stop.go ?_
  (try with_reducible refine Fz.of ?_);(replace hb0:=true_and True);refine Go1.mk ?_;repeat' ((first|(with_reducible refine Go1.go ?_)|((with_reducible first|refine brv_mk ?_ ?_|refine gsplitD ?_ ?_|refine gsplitG ?_ ?_)<;>intro h<;>(try simp only[Bool.not_eq_true',Bool.not_eq_false']at h)<;>replace hb0:=h)|((with_reducible refine isCall (f:=13) ?_);refine callA ?_)|((with_reducible refine isCallS (f:=13) ?_);refine (shuf31_ok v0 l0 (p+Y.length) Y.length hl7 (by omega) (by omega) (fun q2 Z2 M8 m8 hZ2 hq2 _=>Stop.mk ?_)))|(refine And.intro ?_ ?_;(try simp only[sxO]at *);omega)|fail)<;>(try simp (maxSteps:=1000000) only [hb0,wo,yo,yl,ys,xo,a1o,a2o,uo,ul,us,vo,hasK_nil,↓hold_pre,awayP,runOps,regK,step1,newK,genR,appR,obl,buildR,Value.cells,closeK,keepH,outV,retK,ret1,retC,RetV,Option.getD,runD,stepD,afterK,undef,simprocAttr,sxB,↓sxD,sxE,sxTab]))
  have m8:Mem.le M7 M8:=m8
  have hZ2:Z2.Perm (List.range Y.length):=hZ2
  have hz2:(toI Z2).length<1000000:=by rw[toI_len,hZ2.length_eq,List.length_range];omega
  have hq2:IsL M8 intV64 q2 (toI Z2):=hq2
  have hY8:=hY7.le m8
  have hYo8:=hYo7.le m8
  have q2o:=hq2.one
  refine Stop.go ?_
  (try with_reducible refine Fz.of ?_);(replace hb0:=true_and True);refine Go1.mk ?_;repeat' ((first|(with_reducible refine Go1.go ?_)|((with_reducible first|refine brv_mk ?_ ?_|refine gsplitD ?_ ?_|refine gsplitG ?_ ?_)<;>intro h<;>(try simp only[Bool.not_eq_true',Bool.not_eq_false']at h)<;>replace hb0:=h)|(((with_reducible refine isCall (f:=27) ?_);refine callA_nil (by kernel_rfl) ?_;refine (foundW_ok 5 hY8 hYo8 (by omega) hq2 hz2 (fun b1 b2 M9 m9 b1o b2o=>Stop.mk ?_))))|(refine And.intro ?_ ?_;(try simp only[sxO]at *);omega)|fail)<;>(try simp (maxSteps:=1000000) only [hb0,wo,yo,yl,ys,xo,q2o,uo,ul,us,vo,hasK_nil,↓hold_pre,awayP,runOps,regK,step1,newK,genR,appR,obl,buildR,Value.cells,closeK,keepH,outV,retK,ret1,retC,RetV,Option.getD,runD,stepD,afterK,undef,simprocAttr,sxB,↓sxD,sxE,sxTab]))
  have m9:Mem.le M8 M9:=m9
  have hY9:=hY8.le m9
  have hYo9:=hYo8.le m9
  refine Stop.go ?_
  (try with_reducible refine Fz.of ?_);(replace hb0:=true_and True);refine Go1.mk ?_;repeat' ((first|(with_reducible refine Go1.go ?_)|((with_reducible first|refine brv_mk ?_ ?_|refine gsplitD ?_ ?_|refine gsplitG ?_ ?_)<;>intro h<;>(try simp only[Bool.not_eq_true',Bool.not_eq_false']at h)<;>replace hb0:=h)|(((with_reducible refine isCall (f:=28) ?_);refine callA_nil (by kernel_rfl) ?_;refine (ocheckW_ok hY9 hYo9 (by omega) (fun MA mA=>Stop.mk ?_))))|(refine And.intro ?_ ?_;(try simp only[sxO]at *);omega)|fail)<;>(try simp (maxSteps:=1000000) only [hb0,yo,xo,b1o,b2o,uo,ul,us,vo,hasK_nil,↓hold_pre,awayP,runOps,regK,step1,newK,genR,appR,obl,buildR,Value.cells,closeK,keepH,outV,retK,ret1,retC,RetV,Option.getD,runD,stepD,afterK,undef,simprocAttr,sxB,↓sxD,sxE,sxTab]))
  have mA:Mem.le M9 MA:=mA
  have e1:decide (ordE Y=0)=chkIL Y:=by unfold ordE;cases chkIL Y<;>simp
  have e2:decide (errO Y (toI Z1)=0)=chkIL Y:=errO_chk hZ1
  have e3:decide (errO Y (toI Z2)=0)=chkIL Y:=errO_chk hZ2
  refine Stop.go ?_
  cases hb:chkIL Y with
  | true=>
   rw[hb]at e1 e2 e3
   (try with_reducible refine Fz.of ?_);(replace hb0:=true_and True);refine Go1.mk ?_;repeat' ((first|(with_reducible refine Go1.go ?_)|((with_reducible first|refine brv_mk ?_ ?_|refine gsplitD ?_ ?_|refine gsplitG ?_ ?_)<;>intro h<;>(try simp only[Bool.not_eq_true',Bool.not_eq_false']at h)<;>replace hb0:=h)|(refine And.intro ?_ ?_;(try simp only[sxO]at *);omega)|fail)<;>(try simp (maxSteps:=1000000) only [hb0,hb,e1,e2,e3,wi,yo,xo,uo,ul,us,vo,hasK_nil,↓hold_pre,awayP,runOps,regK,step1,newK,genR,appR,obl,buildR,Value.cells,closeK,keepH,outV,retK,ret1,retC,RetV,Option.getD,runD,stepD,afterK,undef,simprocAttr,sxB,↓sxD,sxE,sxTab]))
   exact ⟨2-(i+1),ckB MA v0 v1 vx (i+1) (p+Y.length+Y.length),by omega,le_sub ⟨rfl,rfl,rfl,rfl,trivial⟩ ⟨rfl,rfl,trivial⟩ rfl rfl rfl (keepLt_of rfl),MA,i+1,_,rfl,by omega,m3.trans (m4.trans (m5.trans (m6.trans (m7.trans (m8.trans (m9.trans mA)))))),by omega,rfl⟩
  | false=>
   rw[hb]at e1 e2 e3
   (try with_reducible refine Fz.of ?_);(replace hb0:=true_and True);refine Go1.mk ?_;repeat' ((first|(with_reducible refine Go1.go ?_)|((with_reducible first|refine brv_mk ?_ ?_|refine gsplitD ?_ ?_|refine gsplitG ?_ ?_)<;>intro h<;>(try simp only[Bool.not_eq_true',Bool.not_eq_false']at h)<;>replace hb0:=h)|(refine And.intro ?_ ?_;(try simp only[sxO]at *);omega)|fail)<;>(try simp (maxSteps:=1000000) only [hb0,hb,e1,e2,e3,wi,yo,xo,uo,ul,us,vo,hasK_nil,↓hold_pre,awayP,runOps,regK,step1,newK,genR,appR,obl,buildR,Value.cells,closeK,keepH,outV,retK,ret1,retC,RetV,Option.getD,runD,stepD,afterK,undef,simprocAttr,sxB,↓sxD,sxE,sxTab]))
   exact ⟨2-(i+1),ckB MA v0 v1 vx (i+1) (p+Y.length+Y.length),by omega,le_sub ⟨rfl,rfl,rfl,rfl,trivial⟩ ⟨rfl,rfl,trivial⟩ rfl rfl rfl (keepLt_of rfl),MA,i+1,_,rfl,by omega,m3.trans (m4.trans (m5.trans (m6.trans (m7.trans (m8.trans (m9.trans mA)))))),by omega,rfl⟩
end
end Go.Proofs.Ytjapnklocibgaaa.Sx
namespace Go.Proofs.Ytjapnklocibgaaa.Sx
set_option linter.unusedVariables false
open Go Go.RowKit Go.ChangeShapes Go.WideShapes Go.ChangeAt
section
variable {H:Type}{enc:TypeId×Value→H}{P:Program}{W:World}{base:Nat}{spare:Nat→Bool}{held:Bool}
theorem mem_wAll{e:TypeId}{n:Nat}:∀{l:List (DataW H)} {d:DataW H},d∈l→n∈d.weights P e→n∈DataW.weightsAll P e l
 | [],_,h,_=>by simp at h
 | x :: r,d,h,hn=>by
  simp only[DataW.weightsAll,List.mem_append]
  rcases List.mem_cons.1 h with rfl|h
  ·exact .inl hn
  ·exact .inr (mem_wAll h hn)
theorem mem_wEach{n:Nat}:∀{ts:List TypeId} {ds:List (DataW H)} {j:Nat} {t:TypeId} {d:DataW H},ts[j]? = some t→ds[j]? = some d→n∈d.weights P t→n∈DataW.weightsEach P ts ds
 | t0 :: ts,d0 :: ds,0,t,d,ht,hd,hn=>by
  simp only[List.getElem?_cons_zero,Option.some.injEq]at ht hd
  subst ht;subst hd
  simp only[DataW.weightsEach,List.mem_append]
  exact .inl hn
 | t0 :: ts,d0 :: ds,j+1,t,d,ht,hd,hn=>by
  simp only[List.getElem?_cons_succ]at ht hd
  simp only[DataW.weightsEach,List.mem_append]
  exact .inr (mem_wEach ht hd hn)
 | [],_,_,_,_,ht,_,_=>by simp at ht
 | _ :: _,[],_,_,_,_,hd,_=>by simp at hd
def small(P:Program)(t:TypeId)(d:DataW H):Prop:=∀k∈d.weights P t,k≤140737488351232
theorem small_of{ts:List TypeId}{ds:List (DataW H)}(h:(DataW.weightsEach P ts ds).all (·≤reachBytes)=true){j:Nat}{t:TypeId}{d:DataW H}(ht:ts[j]? = some t)(hd:ds[j]? = some d):small P t d:=fun k hk=>by
 have:=List.all_eq_true.1 h _ (mem_wEach ht hd hk)
 have:=of_decide_eq_true this
 exact this
def Opn(enc:TypeId×Value→H)(P:Program)(W:World)(base:Nat)(spare:Nat→Bool)(held:Bool){α:Type}(t:TypeId)(g:α→List Value)(ok:α→Prop):Prop:=
 ∀fu cs x,DataW.trod enc P W base spare held fu t cs=some x→small P t x.1→∃a,cs=g a∧ok a
theorem opn_int{t:TypeId}{k:IntKind}(ht:P.underlying t=some (.int k)):Opn enc P W base spare held t (fun n:Int=>[.int k n]) (fun n=>(Lit.int k n).wf=true):=fun fu cs x h hs=>by
 obtain ⟨n,rfl,rfl,hw⟩:=DataW.trod_int ht h
 exact ⟨n,rfl,hw⟩
theorem opn_field{t:TypeId}{fs:Array Field}{fu:Nat}{cs:List Value}{x:DataW H×List MemPlace}(ht:P.underlying t=some (.struct fs))(h:DataW.trod enc P W base spare held fu t cs=some x)(hs:small P t x.1) :
  cs.length=P.cellsOf t∧∀(i:Nat) (f:Field),fs[i]? = some f→∃n y,DataW.trod enc P W base spare held n f.type ((cs.drop f.offset).take (P.cellsOf f.type))=some y∧small P f.type y.1:=by
 obtain ⟨xs,n,_,rfl,hl,hlen,hf⟩:=DataW.trod_struct ht h
 refine ⟨hl,fun i f hi=>?_⟩
 have hlt:i<xs.length:=by rw[hlen];exact (Array.getElem?_eq_some_iff.1 hi).1
 have h1:=hf i f hi
 rw[List.getElem?_eq_getElem hlt]at h1
 refine ⟨n,xs[i],h1,fun k hk=>hs k ?_⟩
 simp only[DataW.weights,ht]
 exact mem_wEach (j:=i) (t:=f.type) (d:=xs[i].1) (by simp;exact ⟨f,by simpa using hi,rfl⟩) (by simp[hlt]) hk
theorem opn_str2{α β:Type}{t:TypeId}{f0 f1:Field}{g0:α→List Value}{g1:β→List Value}{ok0:α→Prop}{ok1:β→Prop}(ht:P.underlying t=some (.struct #[f0,f1]))(h0:Opn enc P W base spare held f0.type g0 ok0)(h1:Opn enc P W base spare held f1.type g1 ok1)(o0:f0.offset=0)(c0:P.cellsOf f0.type=f1.offset)(ce:P.cellsOf t=f1.offset+P.cellsOf f1.type) :
  Opn enc P W base spare held t (fun a:α×β=>g0 a.1++g1 a.2) (fun a=>ok0 a.1∧ok1 a.2):=fun fu cs x h hs=>by
 obtain ⟨hl,hf⟩:=opn_field ht h hs
 obtain ⟨_,_,t0,s0⟩:=hf 0 f0 rfl
 obtain ⟨_,_,t1,s1⟩:=hf 1 f1 rfl
 obtain ⟨a,ha,pa⟩:=h0 _ _ _ t0 s0
 obtain ⟨b,hb,pb⟩:=h1 _ _ _ t1 s1
 refine ⟨(a,b),?_,pa,pb⟩
 simp only
 rw[←ha,←hb,o0,c0,List.drop_zero,List.take_of_length_le (l:=cs.drop f1.offset) (by rw[List.length_drop];omega),List.take_append_drop]
theorem opn_str3{α β γ:Type}{t:TypeId}{f0 f1 f2:Field}{g0:α→List Value}{g1:β→List Value}{g2:γ→List Value}{ok0:α→Prop}{ok1:β→Prop}{ok2:γ→Prop}(ht:P.underlying t=some (.struct #[f0,f1,f2]))(h0:Opn enc P W base spare held f0.type g0 ok0)(h1:Opn enc P W base spare held f1.type g1 ok1)(h2:Opn enc P W base spare held f2.type g2 ok2)(o0:f0.offset=0)(c0:P.cellsOf f0.type=f1.offset)(c1:f1.offset+P.cellsOf f1.type=f2.offset)(ce:P.cellsOf t=f2.offset+P.cellsOf f2.type) :
  Opn enc P W base spare held t (fun a:α×β×γ=>g0 a.1++(g1 a.2.1++g2 a.2.2)) (fun a=>ok0 a.1∧ok1 a.2.1∧ok2 a.2.2):=fun fu cs x h hs=>by
 obtain ⟨hl,hf⟩:=opn_field ht h hs
 obtain ⟨_,_,t0,s0⟩:=hf 0 f0 rfl
 obtain ⟨_,_,t1,s1⟩:=hf 1 f1 rfl
 obtain ⟨_,_,t2,s2⟩:=hf 2 f2 rfl
 obtain ⟨a,ha,pa⟩:=h0 _ _ _ t0 s0
 obtain ⟨b,hb,pb⟩:=h1 _ _ _ t1 s1
 obtain ⟨c,hc,pc⟩:=h2 _ _ _ t2 s2
 refine ⟨(a,b,c),?_,pa,pb,pc⟩
 simp only
 rw[←ha,←hb,←hc,o0,c0,List.drop_zero,List.take_of_length_le (l:=cs.drop f2.offset) (by rw[List.length_drop];omega),←c1,←List.drop_drop,List.take_append_drop,List.take_append_drop]
theorem opn_slice{α:Type}{t e:TypeId}{z B:Nat}{g:α→List Value}{ok:α→Prop}{v:Value}{d:DataW H}{ps:List MemPlace}{r:Reach}{b0:Nat}(ho:Opn enc P W base spare held e g ok)(hg:∀a,(g a).length=z)(hz:P.cellsOf e=z)(hB:P.bytesOf e=B)(ht:P.underlying t=some (.slice e))(hv:Value.okWide P W r b0 t v)(h:DataW.Trod enc P W base spare held t v d ps)(hs:small P t d) :
  ∃l:List α,IsR (heapM W) z g v l∧l.length*B≤140737488351232∧∀a∈l,ok a:=by
 obtain ⟨n,cs,hsl,hn,hel⟩:=open_row ht hz hv h
 obtain ⟨fuel,hf⟩:=h
 obtain ⟨a,len,cap,rfl⟩:=okWide_slice ht hv
 have hone:(Value.slice a len cap).cells.toList=[.slice a len cap]:=rfl
 rw[hone]at hf
 rcases Go.Deep.open_slice ht hf with ⟨h0,_⟩|⟨a',len',cap',m,k,D,Pl,hcs,hb,hl,hm,hmm,hx,hi⟩
 ·obtain ⟨rfl,rfl,rfl⟩:a=none∧len=0∧cap=0:=by simpa using h0
  have:n=0:=by have:=hsl.len;simpa [slen] using this.symm
  subst this
  refine ⟨[],?_,by simp,by simp⟩
  exact slM_nil _ _ _
 ·obtain ⟨rfl,rfl,rfl⟩:a=some a'∧len=len'∧cap=cap':=by simpa using hcs
  have hnl:n=len:=by have:=hsl.len;simpa [slen] using this.symm
  subst hnl
  have hlm:n≤m:=by rw[hmm];split<;>omega
  obtain rfl:d=_:=congrArg Prod.fst hx
  have hw:n*B≤140737488351232:=by
   have:=hs (((List.range n).map D).length+((List.range (m-n)).map fun j=>D (n+j)).length |> (· * P.bytesOf e)) (by simp[DataW.weights,ht])
   simp only[List.length_map,List.length_range,hB]at this
   exact Nat.le_trans (Nat.mul_le_mul_right B (Nat.le_add_right n (m-n))) this
  have hsm:∀i,i<n→small P e (D i):=fun i hin q hq=>hs q (by
   simp only[DataW.weights,ht,List.mem_cons,List.mem_append]
   exact .inr (.inl (mem_wAll (List.mem_map.2 ⟨i,by simpa using hin,rfl⟩) hq)))
  have hsp:=okSlice ht hv
  have key:∀i,i<n→∃y,(cs.drop (i*z)).take z=g y∧ok y:=fun i hin=>by
   obtain ⟨cs',h1,h2⟩:=hi i (by omega)
   obtain ⟨y,e1,e2⟩:=ho _ _ _ h2 (hsm i hin)
   refine ⟨y,?_,e2⟩
   rw[←e1]
   obtain ⟨_,h3,h4⟩:=World.cells?_some h1
   obtain ⟨b,off,sp⟩:=a'
   obtain rfl:sp=none:=hsp
   have hrow:rowM (heapM W) b off (n*z)=some cs:=by
    by_cases hn0:n=0
    ·omega
    ·have:=hsl.row
     simpa [rowS] using this
   obtain ⟨r1,r2⟩:=rowM_get hrow
   have hle:i*z+z≤n*z:=by
    have:=Nat.mul_le_mul_right z (show i+1≤n by omega)
    rw[Nat.succ_mul]at this
    exact this
   apply List.ext_getElem?
   intro j
   by_cases hj:j<z
   ·rw[List.getElem?_take_of_lt hj,List.getElem?_drop]
    have h5:=h4 j (by omega)
    have hjl:j<cs'.length:=by omega
    rw[List.getElem?_eq_getElem hjl]at h5 ⊢
    have h6:=(cell_heapM h5).2
    have hb1:∀(x:Addr) n,(x.add n).block=x.block:=fun x n=>by unfold Addr.add;split<;>rfl
    have hb2:∀(x:Addr) n,(x.add n).off=x.off+n:=fun x n=>by unfold Addr.add;split<;>simp_all
    rw[hb1,hb1,hb2,hb2,hz]at h6
    have hc:i*z+j<cs.length:=by omega
    have:=r2 (i*z+j) cs[i*z+j] (by rw[List.getElem?_eq_getElem hc])
    rw[List.getElem?_eq_getElem hc]
    simp only at h6
    rw[show off+(i*z+j)=off+i*z+j by omega]at this
    rw[←this,h6]
   ·rw[List.getElem?_eq_none (by rw[List.length_take];omega),List.getElem?_eq_none (by omega)]
  have hcl:=hsl.size
  have all:∀k,k≤n→∃l:List α,l.length=k∧cs.take (k*z)=l.flatMap g∧∀a∈l,ok a:=by
   intro k
   induction k with
   | zero=>intro _;exact ⟨[],rfl,by simp,by simp⟩
   | succ k ih=>
    intro hk
    obtain ⟨l,e1,e2,e3⟩:=ih (by omega)
    obtain ⟨y,e4,e5⟩:=key k (by omega)
    refine ⟨l++[y],by simp[e1],?_,fun a ha=>?_⟩
    ·rw[List.flatMap_append,←e2,Nat.succ_mul,List.take_add,e4];simp
    ·rcases List.mem_append.1 ha with h|h
     ·exact e3 a h
     ·rw[List.mem_singleton.1 h];exact e5
  obtain ⟨l,e1,e2,e3⟩:=all n (Nat.le_refl _)
  rw[List.take_of_length_le (by omega)]at e2
  refine ⟨l,?_,by rw[e1];exact hw,e3⟩
  unfold IsR
  rw[e1,←e2];exact hsl
end
structure RawF (M:Mem) (x:FR):Prop where
 n:IsL M u32V x.u1 x.l1
 d:IsL M u32V x.u2 x.l2
 on:okN x.l1
 od:okN x.l2
 bn:x.l1.length≤140737488351232
 bd:x.l2.length≤140737488351232
section
variable {H:Type}{enc:TypeId×Value→H}{P:Program}{W:World}{base:Nat}{spare:Nat→Bool}{held:Bool}
theorem cell_rowF{t e:TypeId}{z fuel:Nat}{v:Value}{x0:DataW H×List MemPlace}(ht:P.underlying t=some (.slice e))(hz:P.cellsOf e=z)(hz0:0<z)(hf:DataW.trod enc P W base spare held fuel t [v]=some x0)(hs:small P t x0.1) :
  ∃n cs,SlM (heapM W) z v n cs∧n*P.bytesOf e≤140737488351232∧∀i,i<n→∃fu x,DataW.trod enc P W base spare held fu e ((cs.drop (i*z)).take z)=some x∧small P e x.1:=by
 rcases Go.Deep.open_slice ht hf with ⟨h0,_⟩|⟨a,len,cap,m,n,D,Pl,hcs,hb,hl,hm,hmm,hx,hi⟩
 ·obtain rfl:v=.slice none 0 0:=by simpa using h0
  exact ⟨0,[],slM_nil _ _ _,by simp,fun i hi=>by omega⟩
 ·obtain rfl:v=.slice (some a) len cap:=by simpa using hcs
  have hlm:len≤m:=by rw[hmm];split<;>omega
  have hx1:=congrArg Prod.fst hx
  have hw:len*P.bytesOf e≤140737488351232:=by
   have:=hs (((List.range len).map D).length+((List.range (m-len)).map fun j=>D (len+j)).length |> (· * P.bytesOf e)) (by rw[hx1];simp[DataW.weights,ht])
   simp only[List.length_map,List.length_range]at this
   exact Nat.le_trans (Nat.mul_le_mul_right _ (Nat.le_add_right len (m-len))) this
  have hsm:∀i,i<len→small P e (D i):=fun i hin q hq=>hs q (by
   rw[hx1]
   simp only[DataW.weights,ht,List.mem_cons,List.mem_append]
   exact .inr (.inl (mem_wAll (List.mem_map.2 ⟨i,by simpa using hin,rfl⟩) hq)))
  subst hz
  by_cases h0:len=0
  ·subst h0
   exact ⟨0,[],slM_empty _ _ _ _,by simp,fun i hi=>by omega⟩
  have hsp:a.spot=none:=by
   ·obtain ⟨cs',h1,_⟩:=hi 0 (by omega)
    obtain ⟨_,h3,h4⟩:=World.cells?_some h1
    have h5:=h4 0 (by omega)
    rw[List.getElem?_eq_getElem (by omega)]at h5
    have h6:=(cell_heapM h5).1
    rw[Nat.zero_mul]at h6
    simpa [Addr.add] using h6
  have key:∀i,i<len→∃cs',cs'.length=P.cellsOf e∧(∀j,j<P.cellsOf e→cellM (heapM W) a.block (a.off+i*P.cellsOf e+j)=cs'[j]?)∧∃fu x,DataW.trod enc P W base spare held fu e cs'=some x∧small P e x.1:=by
   intro i hil
   obtain ⟨cs',h1,h2⟩:=hi i (by omega)
   obtain ⟨_,h3,h4⟩:=World.cells?_some h1
   refine ⟨cs',h3,fun j hj=>?_,_,_,h2,hsm i hil⟩
   have h5:=h4 j hj
   rw[List.getElem?_eq_getElem (by omega)]at h5 ⊢
   have h6:=(cell_heapM h5).2
   have hb1:∀(x:Addr) n,(x.add n).block=x.block:=fun x n=>by unfold Addr.add;split<;>rfl
   have hb2:∀(x:Addr) n,(x.add n).off=x.off+n:=fun x n=>by unfold Addr.add;split<;>simp_all
   rw[hb1,hb1,hb2,hb2]at h6
   exact h6
  let F:Nat→List Value:=fun i=>if h:i<len then (key i h).choose else []
  have hF:∀i (h:i<len),(F i).length=P.cellsOf e∧(∀j,j<P.cellsOf e→cellM (heapM W) a.block (a.off+i*P.cellsOf e+j)=(F i)[j]?)∧∃fu x,DataW.trod enc P W base spare held fu e (F i)=some x∧small P e x.1:=by
   intro i h
   have:=(key i h).choose_spec
   show (dite _ _ _:List Value).length=_∧_
   simp only[F,h,dite_true]
   exact this
  have hlen:∀k,k≤len→((List.range k).flatMap F).length=k*P.cellsOf e∧(∀j,j<k*P.cellsOf e→cellM (heapM W) a.block (a.off+j)=((List.range k).flatMap F)[j]?)∧∀i,i<k→(((List.range k).flatMap F).drop (i*P.cellsOf e)).take (P.cellsOf e)=F i:=by
   intro k
   induction k with
   | zero=>intro _;simp
   | succ k ih=>
    intro hk
    obtain ⟨a1,a2,a3⟩:=ih (by omega)
    obtain ⟨b1,b2,_⟩:=hF k (by omega)
    rw[List.range_succ,List.flatMap_append]
    simp only[List.flatMap_cons,List.flatMap_nil,List.append_nil]
    refine ⟨by rw[List.length_append,a1,b1,Nat.succ_mul],fun j hj=>?_,fun i hi=>?_⟩
    ·by_cases hjk:j<k*P.cellsOf e
     ·rw[List.getElem?_append_left (by omega)]
      exact a2 j hjk
     ·rw[List.getElem?_append_right (by omega),a1]
      have:=b2 (j-k*P.cellsOf e) (by rw[Nat.succ_mul]at hj;omega)
      rw[←this]
      congr 1
      omega
    ·by_cases hik:i<k
     ·rw[←a3 i hik]
      have h1:i*P.cellsOf e+P.cellsOf e≤k*P.cellsOf e:=by
       have:=Nat.mul_le_mul_right (P.cellsOf e) (show i+1≤k by omega)
       rw[Nat.succ_mul]at this
       exact this
      rw[List.drop_append_of_le_length (by omega),List.take_append_of_le_length (by rw[List.length_drop];omega)]
     ·obtain rfl:i=k:=by omega
      rw[List.drop_append_of_le_length (by omega),List.drop_eq_nil_of_le (by omega)]
      simp only[List.nil_append]
      exact List.take_of_length_le (by omega)
  obtain ⟨c1,c2,c3⟩:=hlen len (Nat.le_refl _)
  refine ⟨len,(List.range len).flatMap F,⟨rfl,rfl,hl,c1,?_⟩,hw,fun i hi=>?_⟩
  ·obtain ⟨b,off,sp⟩:=a
   obtain rfl:sp=none:=hsp
   refine rowM_of c1 fun i v hv=>?_
   have hlt:i<((List.range len).flatMap F).length:=(List.getElem?_eq_some_iff.1 hv).1
   rw[←hv]
   exact c2 i (by omega)
  ·rw[c3 i hi]
   exact (hF i hi).2.2
theorem cell_u32s{t e:TypeId}{fuel:Nat}{v:Value}{x0:DataW H×List MemPlace}(ht:P.underlying t=some (.slice e))(he:P.underlying e=some (.int .u32))(hz:P.cellsOf e=1)(hB:P.bytesOf e=4)(hf:DataW.trod enc P W base spare held fuel t [v]=some x0)(hs:small P t x0.1) :
  ∃l:List Nat,IsL (heapM W) u32V v l∧okN l∧l.length≤140737488351232:=by
 obtain ⟨n,cs,h1,h2,h3⟩:=cell_rowF ht hz (by omega) hf hs
 rw[hB]at h2
 have hl:cs.length=n:=by have:=h1.size;omega
 have key:∀i,i<cs.length→∃y:Int,cs[i]? = some (intVk .u32 y)∧(Lit.int .u32 y).wf=true:=by
  intro i hi
  obtain ⟨fu,x,hx,_⟩:=h3 i (by omega)
  rw[Nat.mul_one,List.drop_eq_getElem_cons hi]at hx
  have hx:DataW.trod enc P W base spare held fu e [cs[i]]=some x:=hx
  obtain ⟨y,h4,_,h5⟩:=DataW.trod_int he hx
  exact ⟨y,by rw[List.getElem?_eq_getElem hi];simpa [intVk] using h4,h5⟩
 have all:∀cs:List Value,(∀i,i<cs.length→∃y:Int,cs[i]? = some (intVk .u32 y)∧(Lit.int .u32 y).wf=true)→∃l:List Int,cs=l.map (intVk .u32)∧∀x∈l,(Lit.int .u32 x).wf=true:=by
  intro cs
  induction cs with
  | nil=>intro _;exact ⟨[],rfl,by simp⟩
  | cons c cs ih=>
   intro hh
   obtain ⟨y,hy,hw⟩:=hh 0 (by simp)
   obtain ⟨l,rfl,hl⟩:=ih fun i hi=>by have:=hh (i+1) (by simp;omega);simpa using this
   obtain rfl:c=intVk .u32 y:=by simpa using hy
   exact ⟨y :: l,rfl,by simpa using ⟨hw,hl⟩⟩
 obtain ⟨l,rfl,hw⟩:=all cs key
 have hln:l.length=n:=by simpa using hl
 subst hln
 have h1:IsL (heapM W) (intVk .u32) v l:=h1
 obtain ⟨g1,g2⟩:=nats_of h1 hw
 exact ⟨_,g1,g2,by rw[List.length_map];omega⟩
theorem opn_frac{e nt i0:TypeId}{f0 f1:Field}(he:P.underlying e=some (.struct #[f0,f1]))(hn:P.underlying nt=some (.slice i0))(hi:P.underlying i0=some (.int .u32))
  (hf:f0.type=nt∧f1.type=nt) (hof:f0.offset=0∧f1.offset=1) (hc:P.cellsOf e=2∧P.cellsOf nt=1∧P.cellsOf i0=1∧P.bytesOf i0=4):Opn enc P W base spare held e FR.c (RawF (heapM W)):=fun fu cs x h hs=>by
 obtain ⟨c1,c2,c3,c4⟩:=hc
 obtain ⟨o0,o1⟩:=hof
 obtain ⟨t0,t1⟩:=hf
 obtain ⟨hl,hg⟩:=opn_field he h hs
 rw[c1]at hl
 obtain ⟨a0,a1,rfl⟩:=len2 hl
 obtain ⟨_,_,e0,s0⟩:=hg 0 f0 rfl
 obtain ⟨_,_,e1,s1⟩:=hg 1 f1 rfl
 rw[t0]at e0 s0
 rw[t1]at e1 s1
 rw[o0,c2]at e0
 rw[o1,c2]at e1
 obtain ⟨l1,p1,p2,p3⟩:=cell_u32s hn hi c3 c4 (v:=a0) e0 s0
 obtain ⟨l2,q1,q2,q3⟩:=cell_u32s hn hi c3 c4 (v:=a1) e1 s1
 exact ⟨⟨a0,a1,l1,l2⟩,rfl,p1,q1,p2,q2,p3,q3⟩
end
section
variable {H:Type}{enc:TypeId×Value→H}{P:Program}{W:World}{base:Nat}{spare:Nat→Bool}{held:Bool}
theorem opn_stringO{t:TypeId}(ht:P.underlying t=some .string):Opn enc P W base spare held t (fun s:Bst=>[sbV s]) (fun s=>s.length≤140737488351232):=fun fu cs x h hs=>by
 obtain ⟨s,rfl,rfl,_⟩:=DataW.trod_string ht h
 refine ⟨s.data.toList,rfl,?_⟩
 exact hs s.data.toList.length (by simp[DataW.weights])
theorem opn_item{t:TypeId}(h:Opn enc P W base spare held t (fun a:(Bst×Bst)×FR×Int=>([sbV a.1.1]++[sbV a.1.2])++(FR.c a.2.1++[.int .i64 a.2.2])) (fun a=>(a.1.1.length≤140737488351232∧a.1.2.length≤140737488351232)∧RawF (heapM W) a.2.1∧(Lit.int .i64 a.2.2).wf=true)):Opn enc P W base spare held t IR.c (IR.okW (heapM W)):=fun fu cs x hx hs=>by
 obtain ⟨⟨⟨p,q⟩,r,c⟩,e,_,hr,hw⟩:=h fu cs x hx hs
 obtain ⟨w1,w2⟩:=i64_wf hw
 exact ⟨⟨p,q,r.u1,r.u2,r.l1,r.l2,c⟩,e.trans rfl,⟨hr.n,hr.d,hr.on,hr.od,hr.bn,hr.bd⟩,w1,w2⟩
end
end Go.Proofs.Ytjapnklocibgaaa.Sx
