/- Part 30 of the texts of this claim: a symbolic executor and contracts of functions. -/
import Derived.Test.YtjapnklocibgaaaOCiRCLimH
namespace Go.Proofs.Ytjapnklocibgaaa.Sx
open Go Go.RowKit
set_option linter.unusedVariables false
set_option linter.unusedSimpArgs false
set_option maxRecDepth 100000
set_option maxHeartbeats 8000000
attribute [local congr] fin_congr finG_congr stepG_congr step1_congr runOps_congr brv_congr obl_congr condK_congr LoopK_congr seqK_congr CutK_congr vc_congr DrawK_congr regK_congr CallK_congr AskK_congr newK_congr retC_congr ret1_congr retK_congr outV_congr closeK_congr genR_congr appR_congr finD_congr finGD_congr stepGD_congr stepD_congr CallK0_congr runD_congr okR_congr CallS_congr vcX_congr
attribute [local congr] Stop_congr
section
variable {M:Mem}{K:AV→Hp→Mem→Prop}
theorem rdH_pure(P C S B:List Nat):pureH (rdH P C S B):=⟨⟨_,rfl⟩,⟨_,rfl⟩,trivial⟩
theorem guess_bor(P C S B:List Nat)(j n:Nat)(hj:P.length=j)(hn:2≤n)(hn2:n<1000000000)(hC:C.length=n+1)(hB:B.length=n)(hoC:okN C)(hoB:okN B)(htop:2147483648≤B[n-1]'(by omega))(hlt:valN C<4294967296*valN B)
  (hK:∀q,q<4294967296→valN C / valN B≤q→q≤valN C / valN B+1→K (.ext (.int .u64 ((q:Nat):Int))) (rdH P C S B) M):CallS Try.prog 87 [.slo 1013 j (n+1) 1,.slo 2013 0 n 1] (rdH P C S B) M [] K:=by
 refine CallS.bor (rdH_pure P C S B) fun us M' hM hb'=>?_
 obtain ⟨v1,_,rfl,h1,v2,_,rfl,h2,rfl⟩:=hb'
 have g1:=h1.part (g:=u32V) (L:=P++(C++S)) rfl (by simp;omega)
 have g2:=h2.isL (g:=u32V) (L:=B) rfl hB.symm
 have e:((P++(C++S)).drop j).take (n+1)=C:=by
  subst hj
  rw[List.drop_left,←hC,List.take_left]
 rw[e]at g1
 exact guess_ok v1 v2 n C B g1 g2 hn hn2 hC hB hoC hoB htop hlt fun q h3 h4 h5=>BorK.same (hK q h3 h4 h5)
theorem unshift_bor(k m n:Nat)(T:TypeId)(l:List Nat)(hm:m=l.length)(hx:l.length<100000000)(hol:okN l)(hn:n<32)(hK:∀w M',Mem.le M M'→IsL M' u32V w (ofN (valN l / 2^n))→FreshS M w→K (.ext w) [(k,T,cE u32V l)] M') :
  CallS Try.prog 88 [.slo k 0 m 1,.ext (.int .i64 (n:Int))] [(k,T,cE u32V l)] M [] K:=by
 refine CallS.bor ⟨⟨_,rfl⟩,trivial⟩ fun us M' hM hb'=>?_
 obtain ⟨v1,_,rfl,h1,_,_,rfl,rfl,rfl⟩:=hb'
 have g1:=h1.isL (g:=u32V) (L:=l) (T:=T) (by simp[lkH]) hm
 refine unshift_ok v1 l n g1 hx hol hn fun w M2 h2 h3 h4=>?_
 exact ⟨fun j hj=>rfl,fun M3 h5 h6 _=>hK w M3 h5 (h3.move h4 h6) (h4.le hM)⟩
def dvSt(M:Mem)(la m n s j:Nat)(U B Q:List Nat):St:={env:=[(12,.ext (.int .i64 ((j:Int)-1))),(11,.slo 54 0 m 1),(10,.slo 2013 0 n 1),(9,.slo 1013 0 (la+1) 1),(8,.ext (.int .i64 (s:Int)))],hp:=[(1013,55,cE u32V U),(2013,55,cE u32V B),(54,55,cE u32V Q)],M:=M,kb:=0,fx:=[]}
theorem divide_ok(u v:Value)(x y:Nat)(hu:IsL M u32V u (ofN x))(hv:IsL M u32V v (ofN y))(hx:(ofN x).length<10000000)(hy:(ofN y).length<10000000)(hy0:0<y)
  (hK:∀q r M',Mem.le M M'→IsL M' u32V q (ofN (x / y))→IsL M' u32V r (ofN (x % y))→FreshS M q→FreshS M r→K (.ext (.tuple #[q,r])) [] M'):CallS Try.prog 64 [.ext u,.ext v] [] M [] K:=by
 refine CallS.frzF ?_
 refine inlS (cs:=[]) Try.mixed Try.func64 rfl (by kernel_rfl) 0 rfl rfl ?_
 simp only[Try.f64]
 by_cases hlt:x<y
 ·have e1:x / y=0:=Nat.div_eq_of_lt hlt
  have e2:x % y=x:=Nat.mod_eq_of_lt hlt
  rw[e1,e2,ofN_zero]at hK
  have c1:=cmpN_lt hlt
  refine Go1.mk ?_;repeat' ((first|(with_reducible refine Go1.go ?_)|(((with_reducible refine isCall (f:=44) ?_);refine callA_nil (by kernel_rfl) ?_;refine (compare_ok u v x y hu hv (by omega) (by omega) ?_)))|(((with_reducible refine isCall (f:=81) ?_);refine callA_nil (by kernel_rfl) ?_;refine (clone_ok u (ofN x) hu (by omega) (fun w M' h1 h2 h3=>Stop.mk ?_))))|((with_reducible refine isDraw [some 62,some 63,some 64,some 65,some 66,some 67,some 68,some 69,some 70,some 71,some 72,some 73,some 74,some 75,some 76,some 77,some 78,some 79,some 80,some 81,some 82,some 83,some 84,none] (by decide) ?_);refine draw_rule [(0,[]),(1,[]),(2,[]),(3,[]),(4,[]),(5,[]),(6,[]),(7,[]),(8,[]),(9,[]),(10,[9]),(11,[9]),(12,[9]),(13,[9]),(14,[9]),(15,[9]),(16,[9]),(17,[9]),(18,[9]),(19,[9,18]),(20,[9]),(21,[]),(22,[]),(23,[])] [[],[],[],[],[],[],[5],[4,5,6],[4,5,6,7],[2,3,4,5,6,7,8],[],[],[],[],[],[14],[13,14,15],[13,14,15,16],[11,12,13,14,15,16,17],[],[11,12,13,14,15,16,17,18,19],[2,3,4,5,6,7,8,9,10,11,12,13,14,15,16,17,18,19,20],[0,1,2,3,4,5,6,7,8,9,10,11,12,13,14,15,16,17,18,19,20,21],[0,1,2,3,4,5,6,7,8,9,10,11,12,13,14,15,16,17,18,19,20,21,22]] [62,63,64,65,66,67,68,69,70,71,72,73,74,75,76,77,78,79,80,81,82,83] [] (by kernel_rfl) (by kernel_rfl) (by kernel_rfl) (by kernel_rfl) (by exact trivial) ?_)|(refine And.intro ?_ ?_;(try simp only[sxO]at *);omega)|fail)<;>(try simp (maxSteps:=1000000) only [cE_ment,hasK_nil,cE_kill,cE_len,u32_one,u32_app1,u32_set,Nat.mul_one,hu.one,hv.one,c1,↓hold_pre,awayP,runOps,regK,step1,newK,genR,appR,obl,buildR,Value.cells,closeK,keepH,outV,retK,ret1,retC,RetV,Option.getD,runD,stepD,afterK,undef,simprocAttr,sxB,↓sxD,sxE,sxTab]))
  refine Stop.go ?_
  refine Go1.mk ?_;repeat' ((first|(with_reducible refine Go1.go ?_)|((with_reducible refine isDraw [some 62,some 63,some 64,some 65,some 66,some 67,some 68,some 69,some 70,some 71,some 72,some 73,some 74,some 75,some 76,some 77,some 78,some 79,some 80,some 81,some 82,some 83,some 84,none] (by decide) ?_);refine draw_rule [(0,[]),(1,[]),(2,[]),(3,[]),(4,[]),(5,[]),(6,[]),(7,[]),(8,[]),(9,[]),(10,[9]),(11,[9]),(12,[9]),(13,[9]),(14,[9]),(15,[9]),(16,[9]),(17,[9]),(18,[9]),(19,[9,18]),(20,[9]),(21,[]),(22,[]),(23,[])] [[],[],[],[],[],[],[5],[4,5,6],[4,5,6,7],[2,3,4,5,6,7,8],[],[],[],[],[],[14],[13,14,15],[13,14,15,16],[11,12,13,14,15,16,17],[],[11,12,13,14,15,16,17,18,19],[2,3,4,5,6,7,8,9,10,11,12,13,14,15,16,17,18,19,20],[0,1,2,3,4,5,6,7,8,9,10,11,12,13,14,15,16,17,18,19,20,21],[0,1,2,3,4,5,6,7,8,9,10,11,12,13,14,15,16,17,18,19,20,21,22]] [62,63,64,65,66,67,68,69,70,71,72,73,74,75,76,77,78,79,80,81,82,83] [] (by kernel_rfl) (by kernel_rfl) (by kernel_rfl) (by kernel_rfl) (by exact trivial) ?_)|(refine And.intro ?_ ?_;(try simp only[sxO]at *);omega)|fail)<;>(try simp (maxSteps:=1000000) only [h2.one,↓hold_pre,awayP,runOps,regK,step1,newK,genR,appR,obl,buildR,Value.cells,closeK,keepH,outV,retK,ret1,retC,RetV,Option.getD,runD,stepD,afterK,undef,simprocAttr,sxB,↓sxD,sxE,sxTab]))
  exact .inl (hK _ _ _ h1 (isL_nil _ _ _) h2 (freshS_nil _ _) h3)
 have c1:decide (cmpN x y<0)=false:=by
  rw[decide_eq_false_iff_not];unfold cmpN;rw[if_neg hlt];split<;>omega
 have hlen:=len_mono (show y≤x by omega)
 have hl1:0<(ofN y).length:=by
  rcases Nat.eq_zero_or_pos (ofN y).length with h|h
  ·have:=ofN_nil.1 (List.length_eq_zero_iff.1 h);omega
  ·exact h
 by_cases hone:(ofN y).length=1
 ·have d1:decide (((ofN y).length:Int)=1)=true:=by simp;omega
  have hyi:=hv.idx (P:=Try.prog) (T:=55) tk55 tz55 (by omega) hl1
  have hyv:(ofN y)[0]=y:=by
   have:=valN_ofN y
   generalize ofN y=l at *
   match l,hone with
   | [a],_=>simpa [valN] using this
  have hy32:y<4294967296:=by rw[←hyv];exact ofN_ok_at hl1
  rw[hyv]at hyi
  have w1:IntKind.u64.wrap ((x % y:Nat):Int)=((x % y:Nat):Int):=wrap64_id (by have:=Nat.mod_lt x hy0;omega)
  refine Go1.mk ?_;repeat' ((first|(with_reducible refine Go1.go ?_)|(((with_reducible refine isCall (f:=44) ?_);refine callA_nil (by kernel_rfl) ?_;refine (compare_ok u v x y hu hv (by omega) (by omega) ?_)))|(((with_reducible refine isCall (f:=82) ?_);refine callA_nil (by kernel_rfl) ?_;refine (small_ok u x y hu (by omega) hy0 hy32 (fun w M' h1 h2 h3=>Stop.mk ?_))))|((with_reducible refine isDraw [some 62,some 63,some 64,some 65,some 66,some 67,some 68,some 69,some 70,some 71,some 72,some 73,some 74,some 75,some 76,some 77,some 78,some 79,some 80,some 81,some 82,some 83,some 84,none] (by decide) ?_);refine draw_rule [(0,[]),(1,[]),(2,[]),(3,[]),(4,[]),(5,[]),(6,[]),(7,[]),(8,[]),(9,[]),(10,[9]),(11,[9]),(12,[9]),(13,[9]),(14,[9]),(15,[9]),(16,[9]),(17,[9]),(18,[9]),(19,[9,18]),(20,[9]),(21,[]),(22,[]),(23,[])] [[],[],[],[],[],[],[5],[4,5,6],[4,5,6,7],[2,3,4,5,6,7,8],[],[],[],[],[],[14],[13,14,15],[13,14,15,16],[11,12,13,14,15,16,17],[],[11,12,13,14,15,16,17,18,19],[2,3,4,5,6,7,8,9,10,11,12,13,14,15,16,17,18,19,20],[0,1,2,3,4,5,6,7,8,9,10,11,12,13,14,15,16,17,18,19,20,21],[0,1,2,3,4,5,6,7,8,9,10,11,12,13,14,15,16,17,18,19,20,21,22]] [62,63,64,65,66,67,68,69,70,71,72,73,74,75,76,77,78,79,80,81,82,83] [] (by kernel_rfl) (by kernel_rfl) (by kernel_rfl) (by kernel_rfl) (by exact trivial) ?_)|(refine And.intro ?_ ?_;(try simp only[sxO]at *);omega)|fail)<;>(try simp (maxSteps:=1000000) only [cE_ment,hasK_nil,cE_kill,cE_len,u32_one,u32_app1,u32_set,Nat.mul_one,u32V,hu.one,hv.one,hv.len,hv.sl,c1,d1,hyi,Int.natCast_zero,Int.cast_ofNat_Int,↓hold_pre,awayP,runOps,regK,step1,newK,genR,appR,obl,buildR,Value.cells,closeK,keepH,outV,retK,ret1,retC,RetV,Option.getD,runD,stepD,afterK,undef,simprocAttr,sxB,↓sxD,sxE,sxTab]))
  refine Stop.go ?_
  refine Go1.mk ?_;repeat' ((first|(with_reducible refine Go1.go ?_)|(((with_reducible refine isCall (f:=83) ?_);refine callA_nil (by kernel_rfl) ?_;refine (of_ok (x % y) (by have:=Nat.mod_lt x hy0;omega) (fun w2 M2 g1 g2 g3=>Stop.mk ?_))))|((with_reducible refine isDraw [some 62,some 63,some 64,some 65,some 66,some 67,some 68,some 69,some 70,some 71,some 72,some 73,some 74,some 75,some 76,some 77,some 78,some 79,some 80,some 81,some 82,some 83,some 84,none] (by decide) ?_);refine draw_rule [(0,[]),(1,[]),(2,[]),(3,[]),(4,[]),(5,[]),(6,[]),(7,[]),(8,[]),(9,[]),(10,[9]),(11,[9]),(12,[9]),(13,[9]),(14,[9]),(15,[9]),(16,[9]),(17,[9]),(18,[9]),(19,[9,18]),(20,[9]),(21,[]),(22,[]),(23,[])] [[],[],[],[],[],[],[5],[4,5,6],[4,5,6,7],[2,3,4,5,6,7,8],[],[],[],[],[],[14],[13,14,15],[13,14,15,16],[11,12,13,14,15,16,17],[],[11,12,13,14,15,16,17,18,19],[2,3,4,5,6,7,8,9,10,11,12,13,14,15,16,17,18,19,20],[0,1,2,3,4,5,6,7,8,9,10,11,12,13,14,15,16,17,18,19,20,21],[0,1,2,3,4,5,6,7,8,9,10,11,12,13,14,15,16,17,18,19,20,21,22]] [62,63,64,65,66,67,68,69,70,71,72,73,74,75,76,77,78,79,80,81,82,83] [] (by kernel_rfl) (by kernel_rfl) (by kernel_rfl) (by kernel_rfl) (by exact trivial) ?_)|(refine And.intro ?_ ?_;(try simp only[sxO]at *);omega)|fail)<;>(try simp (maxSteps:=1000000) only [h2.one,w1,↓hold_pre,awayP,runOps,regK,step1,newK,genR,appR,obl,buildR,Value.cells,closeK,keepH,outV,retK,ret1,retC,RetV,Option.getD,runD,stepD,afterK,undef,simprocAttr,sxB,↓sxD,sxE,sxTab]))
  refine Stop.go ?_
  refine Go1.mk ?_;repeat' ((first|(with_reducible refine Go1.go ?_)|((with_reducible refine isDraw [some 62,some 63,some 64,some 65,some 66,some 67,some 68,some 69,some 70,some 71,some 72,some 73,some 74,some 75,some 76,some 77,some 78,some 79,some 80,some 81,some 82,some 83,some 84,none] (by decide) ?_);refine draw_rule [(0,[]),(1,[]),(2,[]),(3,[]),(4,[]),(5,[]),(6,[]),(7,[]),(8,[]),(9,[]),(10,[9]),(11,[9]),(12,[9]),(13,[9]),(14,[9]),(15,[9]),(16,[9]),(17,[9]),(18,[9]),(19,[9,18]),(20,[9]),(21,[]),(22,[]),(23,[])] [[],[],[],[],[],[],[5],[4,5,6],[4,5,6,7],[2,3,4,5,6,7,8],[],[],[],[],[],[14],[13,14,15],[13,14,15,16],[11,12,13,14,15,16,17],[],[11,12,13,14,15,16,17,18,19],[2,3,4,5,6,7,8,9,10,11,12,13,14,15,16,17,18,19,20],[0,1,2,3,4,5,6,7,8,9,10,11,12,13,14,15,16,17,18,19,20,21],[0,1,2,3,4,5,6,7,8,9,10,11,12,13,14,15,16,17,18,19,20,21,22]] [62,63,64,65,66,67,68,69,70,71,72,73,74,75,76,77,78,79,80,81,82,83] [] (by kernel_rfl) (by kernel_rfl) (by kernel_rfl) (by kernel_rfl) (by exact trivial) ?_)|(refine And.intro ?_ ?_;(try simp only[sxO]at *);omega)|fail)<;>(try simp (maxSteps:=1000000) only [h2.one,g2.one,↓hold_pre,awayP,runOps,regK,step1,newK,genR,appR,obl,buildR,Value.cells,closeK,keepH,outV,retK,ret1,retC,RetV,Option.getD,runD,stepD,afterK,undef,simprocAttr,sxB,↓sxD,sxE,sxTab]))
  exact .inl (hK _ _ _ (h1.trans g1) (h2.le g1) g2 h3 (g3.le h1))
 have d1:decide (((ofN y).length:Int)=1)=false:=by simp;omega
 obtain ⟨s,hs,hs32,hbl,hbt⟩:=nrm_plain (y:=y) (by omega)
 have ht32:=ofN_ok_at (show (ofN y).length-1<(ofN y).length by omega)
 have w1:IntKind.i64.wrap (((ofN y).length:Int)-1)=(((ofN y).length-1:Nat):Int):=pred_i hl1 (by omega)
 have hn2:2≤(ofN y).length:=by omega
 have hn1:(ofN y).length-1<(ofN y).length:=by omega
 obtain ⟨t,ht⟩:∃t,(ofN y)[(ofN y).length-1]'(by omega)=t:=⟨_,rfl⟩
 have hyi:=hv.idx (P:=Try.prog) (T:=55) tk55 tz55 (by omega) (show (ofN y).length-1<(ofN y).length by omega)
 rw[ht]at hs ht32
 simp only[ht]at hyi
 clear ht
 generalize hl:(ofN x).length=la at *
 generalize hm:(ofN y).length=n at *
 refine Go1.mk ?_;repeat' ((first|(with_reducible refine Go1.go ?_)|(((with_reducible refine isCall (f:=44) ?_);refine callA_nil (by kernel_rfl) ?_;refine (compare_ok u v x y hu hv (by omega) (by omega) ?_)))|(((with_reducible refine isCall (f:=84) ?_);refine callA_nil (by kernel_rfl) ?_;refine (lead32_ok t ht32 (Stop.mk ?_))))|((with_reducible refine isDraw [some 62,some 63,some 64,some 65,some 66,some 67,some 68,some 69,some 70,some 71,some 72,some 73,some 74,some 75,some 76,some 77,some 78,some 79,some 80,some 81,some 82,some 83,some 84,none] (by decide) ?_);refine draw_rule [(0,[]),(1,[]),(2,[]),(3,[]),(4,[]),(5,[]),(6,[]),(7,[]),(8,[]),(9,[]),(10,[9]),(11,[9]),(12,[9]),(13,[9]),(14,[9]),(15,[9]),(16,[9]),(17,[9]),(18,[9]),(19,[9,18]),(20,[9]),(21,[]),(22,[]),(23,[])] [[],[],[],[],[],[],[5],[4,5,6],[4,5,6,7],[2,3,4,5,6,7,8],[],[],[],[],[],[14],[13,14,15],[13,14,15,16],[11,12,13,14,15,16,17],[],[11,12,13,14,15,16,17,18,19],[2,3,4,5,6,7,8,9,10,11,12,13,14,15,16,17,18,19,20],[0,1,2,3,4,5,6,7,8,9,10,11,12,13,14,15,16,17,18,19,20,21],[0,1,2,3,4,5,6,7,8,9,10,11,12,13,14,15,16,17,18,19,20,21,22]] [62,63,64,65,66,67,68,69,70,71,72,73,74,75,76,77,78,79,80,81,82,83] [] (by kernel_rfl) (by kernel_rfl) (by kernel_rfl) (by kernel_rfl) (by exact trivial) ?_)|(refine And.intro ?_ ?_;(try simp only[sxO]at *);omega)|fail)<;>(try simp (maxSteps:=1000000) only [cE_ment,hasK_nil,cE_kill,cE_len,u32_one,u32_app1,u32_set,Nat.mul_one,u32V,hu.one,hv.one,hv.len,hv.sl,hm,c1,d1,w1,hyi,↓hold_pre,awayP,runOps,regK,step1,newK,genR,appR,obl,buildR,Value.cells,closeK,keepH,outV,retK,ret1,retC,RetV,Option.getD,runD,stepD,afterK,undef,simprocAttr,sxB,↓sxD,sxE,sxTab]))
 rw[←hs]
 refine Stop.go ?_
 have o1:=ofN_len_lt (n:=y*2^s) (k:=n) (by omega)
 have hlo:okN (ofN (y*2^s)):=okN_ofN _
 have w2:IntKind.i64.wrap ((la:Int)-(n:Int))=((la-n:Nat):Int):=by rw[wrap_id (by omega) (by omega)];omega
 have w3:IntKind.i64.wrap (((la-n:Nat):Int)+1)=((la-n+1:Nat):Int):=succ_i (by omega)
 have w4:IntKind.i64.wrap (((la-n+1:Nat):Int)-1)=((la-n+1:Nat):Int)-1:=wrap_id (by omega) (by omega)
 refine Go1.mk ?_;repeat' ((first|(with_reducible refine Go1.go ?_)|((with_reducible refine isCall (f:=85) ?_);refine callA ?_)|((with_reducible refine isCallS (f:=85) ?_);refine (shift_ok 1000 u (ofN x) s hu (by omega) (okN_ofN x) hs32 (fun U0 h1 h2 h3=>Stop.mk ?_)))|((with_reducible refine isDraw [some 62,some 63,some 64,some 65,some 66,some 67,some 68,some 69,some 70,some 71,some 72,some 73,some 74,some 75,some 76,some 77,some 78,some 79,some 80,some 81,some 82,some 83,some 84,none] (by decide) ?_);refine draw_rule [(0,[]),(1,[]),(2,[]),(3,[]),(4,[]),(5,[]),(6,[]),(7,[]),(8,[]),(9,[]),(10,[9]),(11,[9]),(12,[9]),(13,[9]),(14,[9]),(15,[9]),(16,[9]),(17,[9]),(18,[9]),(19,[9,18]),(20,[9]),(21,[]),(22,[]),(23,[])] [[],[],[],[],[],[],[5],[4,5,6],[4,5,6,7],[2,3,4,5,6,7,8],[],[],[],[],[],[14],[13,14,15],[13,14,15,16],[11,12,13,14,15,16,17],[],[11,12,13,14,15,16,17,18,19],[2,3,4,5,6,7,8,9,10,11,12,13,14,15,16,17,18,19,20],[0,1,2,3,4,5,6,7,8,9,10,11,12,13,14,15,16,17,18,19,20,21],[0,1,2,3,4,5,6,7,8,9,10,11,12,13,14,15,16,17,18,19,20,21,22]] [62,63,64,65,66,67,68,69,70,71,72,73,74,75,76,77,78,79,80,81,82,83] [] (by kernel_rfl) (by kernel_rfl) (by kernel_rfl) (by kernel_rfl) (by exact trivial) ?_)|(refine And.intro ?_ ?_;(try simp only[sxO]at *);omega)|fail)<;>(try simp (maxSteps:=1000000) only [cE_ment,hasK_nil,cE_kill,cE_len,u32_one,u32_app1,u32_set,Nat.mul_one,hu.one,hv.one,hu.len,hu.sl,hv.len,hv.sl,hm,hl,w2,w3,w4,↓hold_pre,awayP,runOps,regK,step1,newK,genR,appR,obl,buildR,Value.cells,closeK,keepH,outV,retK,ret1,retC,RetV,Option.getD,runD,stepD,afterK,undef,simprocAttr,sxB,↓sxD,sxE,sxTab]))
 rw[valN_ofN]at h3
 refine Stop.go ?_
 refine Go1.mk ?_;repeat' ((first|(with_reducible refine Go1.go ?_)|((with_reducible refine isCall (f:=85) ?_);refine callA ?_)|((with_reducible refine isCallS (f:=85) ?_);refine (shift_ok 2000 v (ofN y) s hv (by omega) (okN_ofN y) hs32 (fun V0 g1 g2 g3=>Stop.mk ?_)))|((with_reducible refine isDraw [some 62,some 63,some 64,some 65,some 66,some 67,some 68,some 69,some 70,some 71,some 72,some 73,some 74,some 75,some 76,some 77,some 78,some 79,some 80,some 81,some 82,some 83,some 84,none] (by decide) ?_);refine draw_rule [(0,[]),(1,[]),(2,[]),(3,[]),(4,[]),(5,[]),(6,[]),(7,[]),(8,[]),(9,[]),(10,[9]),(11,[9]),(12,[9]),(13,[9]),(14,[9]),(15,[9]),(16,[9]),(17,[9]),(18,[9]),(19,[9,18]),(20,[9]),(21,[]),(22,[]),(23,[])] [[],[],[],[],[],[],[5],[4,5,6],[4,5,6,7],[2,3,4,5,6,7,8],[],[],[],[],[],[14],[13,14,15],[13,14,15,16],[11,12,13,14,15,16,17],[],[11,12,13,14,15,16,17,18,19],[2,3,4,5,6,7,8,9,10,11,12,13,14,15,16,17,18,19,20],[0,1,2,3,4,5,6,7,8,9,10,11,12,13,14,15,16,17,18,19,20,21],[0,1,2,3,4,5,6,7,8,9,10,11,12,13,14,15,16,17,18,19,20,21,22]] [62,63,64,65,66,67,68,69,70,71,72,73,74,75,76,77,78,79,80,81,82,83] [] (by kernel_rfl) (by kernel_rfl) (by kernel_rfl) (by kernel_rfl) (by exact trivial) ?_)|(refine And.intro ?_ ?_;(try simp only[sxO]at *);omega)|fail)<;>(try simp (maxSteps:=1000000) only [cE_ment,hasK_nil,cE_kill,cE_len,u32_one,u32_app1,u32_set,Nat.mul_one,hu.one,hv.one,hu.len,hu.sl,hv.len,hv.sl,hm,hl,w2,w3,w4,↓hold_pre,awayP,runOps,regK,step1,newK,genR,appR,obl,buildR,Value.cells,closeK,keepH,outV,retK,ret1,retC,RetV,Option.getD,runD,stepD,afterK,undef,simprocAttr,sxB,↓sxD,sxE,sxTab]))
 rw[valN_ofN]at g3
 rw[hm]at g1
 refine Stop.go ?_
 refine Go1.mk ?_;repeat' ((first|(with_reducible refine Go1.go ?_)|((with_reducible refine isCall (f:=66) ?_);refine callA ?_)|((with_reducible refine isCallS (f:=66) ?_);refine (trim_ok 2013 (n+1) V0 g1 (by omega) g2 (fun m k1 k2=>Stop.mk ?_)))|((with_reducible refine isDraw [some 62,some 63,some 64,some 65,some 66,some 67,some 68,some 69,some 70,some 71,some 72,some 73,some 74,some 75,some 76,some 77,some 78,some 79,some 80,some 81,some 82,some 83,some 84,none] (by decide) ?_);refine draw_rule [(0,[]),(1,[]),(2,[]),(3,[]),(4,[]),(5,[]),(6,[]),(7,[]),(8,[]),(9,[]),(10,[9]),(11,[9]),(12,[9]),(13,[9]),(14,[9]),(15,[9]),(16,[9]),(17,[9]),(18,[9]),(19,[9,18]),(20,[9]),(21,[]),(22,[]),(23,[])] [[],[],[],[],[],[],[5],[4,5,6],[4,5,6,7],[2,3,4,5,6,7,8],[],[],[],[],[],[14],[13,14,15],[13,14,15,16],[11,12,13,14,15,16,17],[],[11,12,13,14,15,16,17,18,19],[2,3,4,5,6,7,8,9,10,11,12,13,14,15,16,17,18,19,20],[0,1,2,3,4,5,6,7,8,9,10,11,12,13,14,15,16,17,18,19,20,21],[0,1,2,3,4,5,6,7,8,9,10,11,12,13,14,15,16,17,18,19,20,21,22]] [62,63,64,65,66,67,68,69,70,71,72,73,74,75,76,77,78,79,80,81,82,83] [] (by kernel_rfl) (by kernel_rfl) (by kernel_rfl) (by kernel_rfl) (by exact trivial) ?_)|(refine And.intro ?_ ?_;(try simp only[sxO]at *);omega)|fail)<;>(try simp (maxSteps:=1000000) only [cE_ment,hasK_nil,cE_kill,cE_len,u32_one,u32_app1,u32_set,Nat.mul_one,hu.one,hv.one,hu.len,hu.sl,hv.len,hv.sl,hm,hl,w2,w3,w4,↓hold_pre,awayP,runOps,regK,step1,newK,genR,appR,obl,buildR,Value.cells,closeK,keepH,outV,retK,ret1,retC,RetV,Option.getD,runD,stepD,afterK,undef,simprocAttr,sxB,↓sxD,sxE,sxTab]))
 rw[g3,hbl]at k2
 rw[g3]
 have k3:=k2.symm
 subst k3
 refine Stop.go ?_
 have hz0:AV.ext (Value.int .u32 0) :: List.map AV.ext (repN [Value.int .u32 0] (la-n))=cE u32V (List.replicate (la-n+1) 0):=cE_rep u32V (la-n+1) 0
 refine Go1.mk ?_;repeat' ((first|(with_reducible refine Go1.go ?_)|((with_reducible refine isDraw [some 62,some 63,some 64,some 65,some 66,some 67,some 68,some 69,some 70,some 71,some 72,some 73,some 74,some 75,some 76,some 77,some 78,some 79,some 80,some 81,some 82,some 83,some 84,none] (by decide) ?_);refine draw_rule [(0,[]),(1,[]),(2,[]),(3,[]),(4,[]),(5,[]),(6,[]),(7,[]),(8,[]),(9,[]),(10,[9]),(11,[9]),(12,[9]),(13,[9]),(14,[9]),(15,[9]),(16,[9]),(17,[9]),(18,[9]),(19,[9,18]),(20,[9]),(21,[]),(22,[]),(23,[])] [[],[],[],[],[],[],[5],[4,5,6],[4,5,6,7],[2,3,4,5,6,7,8],[],[],[],[],[],[14],[13,14,15],[13,14,15,16],[11,12,13,14,15,16,17],[],[11,12,13,14,15,16,17,18,19],[2,3,4,5,6,7,8,9,10,11,12,13,14,15,16,17,18,19,20],[0,1,2,3,4,5,6,7,8,9,10,11,12,13,14,15,16,17,18,19,20,21],[0,1,2,3,4,5,6,7,8,9,10,11,12,13,14,15,16,17,18,19,20,21,22]] [62,63,64,65,66,67,68,69,70,71,72,73,74,75,76,77,78,79,80,81,82,83] [] (by kernel_rfl) (by kernel_rfl) (by kernel_rfl) (by kernel_rfl) (by exact trivial) ?_)|(refine And.intro ?_ ?_;(try simp only[sxO]at *);omega)|fail)<;>(try simp (maxSteps:=1000000) only [cE_ment,hasK_nil,cE_kill,cE_len,u32_one,u32_app1,u32_set,Nat.mul_one,hu.one,hv.one,hu.len,hu.sl,hv.len,hv.sl,hm,hl,w2,w3,w4,hz0,↓hold_pre,awayP,runOps,regK,step1,newK,genR,appR,obl,buildR,Value.cells,closeK,keepH,outV,retK,ret1,retC,RetV,Option.getD,runD,stepD,afterK,undef,simprocAttr,sxB,↓sxD,sxE,sxTab]))
 rw[hl]at h1
 have hwn:y*2^s<wN n:=o1
 have hvp:0<y*2^s:=Nat.mul_pos hy0 (Nat.two_pow_pos s)
 have hst:DivI (y*2^s) (la-n+1) (la-n+1) (la+1) U0 U0 (List.replicate (la-n+1) 0):=by
  refine div_start (n:=n) h1 h2 (by omega) ?_
  have a1:x<wN la:=ofN_len_lt (by omega)
  have a2:wN (n-1)≤y:=by
   rcases Nat.lt_or_ge y (wN (n-1)) with h|h
   ·have:=ofN_len_le h;omega
   ·exact h
  have a3:wN la=wN (n-1)*wN (la-n+1):=by rw[←wN_add];congr 1;omega
  have a4:=Nat.mul_le_mul_right (wN (la-n+1)) a2
  have a5:x<y*wN (la-n+1):=by omega
  have a6:=Nat.mul_lt_mul_of_pos_right a5 (Nat.two_pow_pos s)
  rw[h3]
  grind
 have hB0:0<valN (ofN (y*2^s)):=by rw[valN_ofN];exact hvp
 refine ⟨fun d z=>∃j U Q,j=d∧j≤la-n+1∧DivI (y*2^s) j (la-n+1) (la+1) U0 U Q∧z=dvSt M la (la-n+1) n s j U (ofN (y*2^s)) Q,
  ⟨la-n+1,dvSt M la (la-n+1) n s (la-n+1) U0 (ofN (y*2^s)) (List.replicate (la-n+1) 0),le_sub ⟨rfl,rfl,rfl,rfl,rfl,trivial⟩ (by simp[subHp,dvSt,lkH,hz0]) rfl rfl rfl (keepLt0 _),⟨_,_,_,rfl,Nat.le_refl _,hst,rfl⟩⟩,?_⟩
 rintro d z ⟨j,U,Q,rfl,hj,hI,rfl⟩
 by_cases hlt:0<j
 case neg=>
  obtain rfl:j=0:=by omega
  have d2:decide ((0:Int)≤((0:Nat):Int)-1)=false:=by simp
  obtain ⟨e1,e2⟩:=div_end hI h3 hy0
  refine Go1.mk ?_;repeat' ((first|(with_reducible refine Go1.go ?_)|((with_reducible refine isCall (f:=66) ?_);refine callA ?_)|((with_reducible refine isCallS (f:=66) ?_);refine (trim_ok 54 (la-n+1) Q hI.lq (by omega) hI.oq (fun m k1 k2=>Stop.mk ?_)))|((with_reducible refine isDraw [some 62,some 63,some 64,some 65,some 66,some 67,some 68,some 69,some 70,some 71,some 72,some 73,some 74,some 75,some 76,some 77,some 78,some 79,some 80,some 81,some 82,some 83,some 84,none] (by decide) ?_);refine draw_rule [(0,[]),(1,[]),(2,[]),(3,[]),(4,[]),(5,[]),(6,[]),(7,[]),(8,[]),(9,[]),(10,[9]),(11,[9]),(12,[9]),(13,[9]),(14,[9]),(15,[9]),(16,[9]),(17,[9]),(18,[9]),(19,[9,18]),(20,[9]),(21,[]),(22,[]),(23,[])] [[],[],[],[],[],[],[5],[4,5,6],[4,5,6,7],[2,3,4,5,6,7,8],[],[],[],[],[],[14],[13,14,15],[13,14,15,16],[11,12,13,14,15,16,17],[],[11,12,13,14,15,16,17,18,19],[2,3,4,5,6,7,8,9,10,11,12,13,14,15,16,17,18,19,20],[0,1,2,3,4,5,6,7,8,9,10,11,12,13,14,15,16,17,18,19,20,21],[0,1,2,3,4,5,6,7,8,9,10,11,12,13,14,15,16,17,18,19,20,21,22]] [62,63,64,65,66,67,68,69,70,71,72,73,74,75,76,77,78,79,80,81,82,83] [] (by kernel_rfl) (by kernel_rfl) (by kernel_rfl) (by kernel_rfl) (by exact trivial) ?_)|(refine And.intro ?_ ?_;(try simp only[sxO]at *);omega)|fail)<;>(try simp (maxSteps:=1000000) only [cE_ment,hasK_nil,cE_kill,cE_len,u32_one,u32_app1,u32_set,Nat.mul_one,dvSt,d2,↓hold_pre,awayP,runOps,regK,step1,newK,genR,appR,obl,buildR,Value.cells,closeK,keepH,outV,retK,ret1,retC,RetV,Option.getD,runD,stepD,afterK,undef,simprocAttr,sxB,↓sxD,sxE,sxTab]))
  rw[e1]at k2 ⊢
  refine Stop.go ?_
  refine Go1.mk ?_;repeat' ((first|(with_reducible refine Go1.go ?_)|((with_reducible refine isCall (f:=66) ?_);refine callA ?_)|((with_reducible refine isCallS (f:=66) ?_);refine (trim_ok 1013 (la+1) U hI.lu (by omega) hI.ou (fun m2 k3 k4=>Stop.mk ?_)))|((with_reducible refine isDraw [some 62,some 63,some 64,some 65,some 66,some 67,some 68,some 69,some 70,some 71,some 72,some 73,some 74,some 75,some 76,some 77,some 78,some 79,some 80,some 81,some 82,some 83,some 84,none] (by decide) ?_);refine draw_rule [(0,[]),(1,[]),(2,[]),(3,[]),(4,[]),(5,[]),(6,[]),(7,[]),(8,[]),(9,[]),(10,[9]),(11,[9]),(12,[9]),(13,[9]),(14,[9]),(15,[9]),(16,[9]),(17,[9]),(18,[9]),(19,[9,18]),(20,[9]),(21,[]),(22,[]),(23,[])] [[],[],[],[],[],[],[5],[4,5,6],[4,5,6,7],[2,3,4,5,6,7,8],[],[],[],[],[],[14],[13,14,15],[13,14,15,16],[11,12,13,14,15,16,17],[],[11,12,13,14,15,16,17,18,19],[2,3,4,5,6,7,8,9,10,11,12,13,14,15,16,17,18,19,20],[0,1,2,3,4,5,6,7,8,9,10,11,12,13,14,15,16,17,18,19,20,21],[0,1,2,3,4,5,6,7,8,9,10,11,12,13,14,15,16,17,18,19,20,21,22]] [62,63,64,65,66,67,68,69,70,71,72,73,74,75,76,77,78,79,80,81,82,83] [] (by kernel_rfl) (by kernel_rfl) (by kernel_rfl) (by kernel_rfl) (by exact trivial) ?_)|(refine And.intro ?_ ?_;(try simp only[sxO]at *);omega)|fail)<;>(try simp (maxSteps:=1000000) only [cE_ment,hasK_nil,cE_kill,cE_len,u32_one,u32_app1,u32_set,Nat.mul_one,dvSt,d2,↓hold_pre,awayP,runOps,regK,step1,newK,genR,appR,obl,buildR,Value.cells,closeK,keepH,outV,retK,ret1,retC,RetV,Option.getD,runD,stepD,afterK,undef,simprocAttr,sxB,↓sxD,sxE,sxTab]))
  refine Stop.go ?_
  refine Go1.mk ?_;repeat' ((first|(with_reducible refine Go1.go ?_)|((with_reducible refine isCall (f:=88) ?_);refine callA ?_)|((with_reducible refine isCallS (f:=88) ?_);refine (unshift_bor 1013 m2 s _ (ofN (valN U)) k4 ?_ (okN_ofN _) hs32 (fun w M' k5 k6 k7=>Stop.mk ?_)))|((with_reducible refine isDraw [some 62,some 63,some 64,some 65,some 66,some 67,some 68,some 69,some 70,some 71,some 72,some 73,some 74,some 75,some 76,some 77,some 78,some 79,some 80,some 81,some 82,some 83,some 84,none] (by decide) ?_);refine draw_rule [(0,[]),(1,[]),(2,[]),(3,[]),(4,[]),(5,[]),(6,[]),(7,[]),(8,[]),(9,[]),(10,[9]),(11,[9]),(12,[9]),(13,[9]),(14,[9]),(15,[9]),(16,[9]),(17,[9]),(18,[9]),(19,[9,18]),(20,[9]),(21,[]),(22,[]),(23,[])] [[],[],[],[],[],[],[5],[4,5,6],[4,5,6,7],[2,3,4,5,6,7,8],[],[],[],[],[],[14],[13,14,15],[13,14,15,16],[11,12,13,14,15,16,17],[],[11,12,13,14,15,16,17,18,19],[2,3,4,5,6,7,8,9,10,11,12,13,14,15,16,17,18,19,20],[0,1,2,3,4,5,6,7,8,9,10,11,12,13,14,15,16,17,18,19,20,21],[0,1,2,3,4,5,6,7,8,9,10,11,12,13,14,15,16,17,18,19,20,21,22]] [62,63,64,65,66,67,68,69,70,71,72,73,74,75,76,77,78,79,80,81,82,83] [] (by kernel_rfl) (by kernel_rfl) (by kernel_rfl) (by kernel_rfl) (by exact trivial) ?_)|(refine And.intro ?_ ?_;(try simp only[sxO]at *);omega)|fail)<;>(try simp (maxSteps:=1000000) only [cE_ment,hasK_nil,cE_kill,cE_len,u32_one,u32_app1,u32_set,Nat.mul_one,↓hold_pre,awayP,runOps,regK,step1,newK,genR,appR,obl,buildR,Value.cells,closeK,keepH,outV,retK,ret1,retC,RetV,Option.getD,runD,stepD,afterK,undef,simprocAttr,sxB,↓sxD,sxE,sxTab]))
  ·have:=ofN_len_le (valN_lt hI.ou)
   rw[hI.lu]at this
   omega
  rw[valN_ofN,e2]at k6
  refine Stop.go ?_
  have k8:=k2.symm
  subst k8
  exact FrzF.tup [] [w] ((ofN (x / y)).map u32V) rfl (by simp) (fun q M2 a1 a2 a3=>hK q w M2 (Mem.le.trans k5 a1) a2 (k6.le a1) (a3.le k5) k7)
 obtain ⟨i,rfl⟩:∃i,j=i+1:=⟨j-1,by omega⟩
 have ej:(((i+1:Nat):Int)-1)=(i:Int):=by omega
 have d2:decide ((0:Int)≤(i:Int))=true:=by simp
 obtain ⟨hU,hlC,hCV,hS0,hvC⟩:=div_part hI hwn (show i+(n+1)≤la+1 by omega)
 have hPl:(U.take i).length=i:=by rw[List.length_take,hI.lu];omega
 have hoC:okN ((U.drop i).take (n+1)):=okN_take (okN_drop hI.ou i) (n+1)
 have step:∀(C':List Nat) (d:Nat),C'.length=n+1→okN C'→valN C'+d*(y*2^s)=valN ((U.drop i).take (n+1))→valN C'<y*2^s→d<4294967296→DivI (y*2^s) i (la-n+1) (la+1) U0 (U.take i++(C'++U.drop (i+(n+1)))) (Q.set i d):=fun C' d f1 f2 f3 f4 f5=>
  div_step hI hwn (by omega) h1 (by omega) f1 f2 f3 f4 f5
 have hQl:=hI.lq
 generalize U.take i=P at *
 generalize (U.drop i).take (n+1)=C at *
 generalize U.drop (i+(n+1))=S at *
 subst hU
 clear hI hst hvC
 rw[←valN_ofN (y*2^s)]at hCV
 have hdC:valN C / valN (ofN (y*2^s))<4294967296:=by rw[Nat.div_lt_iff_lt_mul hB0];exact hCV
 have htop:2147483648≤(ofN (y*2^s))[n-1]'(by omega):=hbt (by omega)
 have w5:IntKind.i64.wrap ((i:Int)+(n:Int))=((i+n:Nat):Int):=by rw[wrap_id (by omega) (by omega)];omega
 have w6:IntKind.i64.wrap (((i+n:Nat):Int)+1)=((i+n+1:Nat):Int):=succ_i (by omega)
 have w7:IntKind.i64.wrap ((i:Int)-1)=(i:Int)-1:=wrap_id (by omega) (by omega)
 have e5:i+n+1-i=n+1:=by omega
 have d3:(0:Int)≤(i:Int):=by omega
 have d4:(i:Int)≤((i+n+1:Nat):Int):=by omega
 have d5:((i+n+1:Nat):Int)≤((la+1:Nat):Int):=by omega
 have d6:(i:Int)<((la-n+1:Nat):Int):=by omega
 have d7:(i<Q.length)=True:=by simp;omega
 refine Go1.mk ?_;repeat' ((first|(with_reducible refine Go1.go ?_)|((with_reducible refine isCall0 (f:=87) ?_);refine callA0 ?_)|((with_reducible refine isCallS (f:=87) ?_);refine (guess_bor P C S (ofN (y*2^s)) i n hPl hn2 (by omega) hlC hbl hoC (okN_ofN _) htop hCV (fun q q1 q2 q3=>Stop.mk ?_)))|((with_reducible refine isDraw [some 62,some 63,some 64,some 65,some 66,some 67,some 68,some 69,some 70,some 71,some 72,some 73,some 74,some 75,some 76,some 77,some 78,some 79,some 80,some 81,some 82,some 83,some 84,none] (by decide) ?_);refine draw_rule [(0,[]),(1,[]),(2,[]),(3,[]),(4,[]),(5,[]),(6,[]),(7,[]),(8,[]),(9,[]),(10,[9]),(11,[9]),(12,[9]),(13,[9]),(14,[9]),(15,[9]),(16,[9]),(17,[9]),(18,[9]),(19,[9,18]),(20,[9]),(21,[]),(22,[]),(23,[])] [[],[],[],[],[],[],[5],[4,5,6],[4,5,6,7],[2,3,4,5,6,7,8],[],[],[],[],[],[14],[13,14,15],[13,14,15,16],[11,12,13,14,15,16,17],[],[11,12,13,14,15,16,17,18,19],[2,3,4,5,6,7,8,9,10,11,12,13,14,15,16,17,18,19,20],[0,1,2,3,4,5,6,7,8,9,10,11,12,13,14,15,16,17,18,19,20,21],[0,1,2,3,4,5,6,7,8,9,10,11,12,13,14,15,16,17,18,19,20,21,22]] [62,63,64,65,66,67,68,69,70,71,72,73,74,75,76,77,78,79,80,81,82,83] [] (by kernel_rfl) (by kernel_rfl) (by kernel_rfl) (by kernel_rfl) (by exact trivial) ?_)|(refine And.intro ?_ ?_;(try simp only[sxO]at *);omega)|fail)<;>(try simp (maxSteps:=1000000) only [cE_ment,hasK_nil,cE_kill,cE_len,u32_one,u32_app1,u32_set,Nat.mul_one,dvSt,rdH,ej,d2,d3,d4,d5,d6,d7,w5,w6,w7,e5,↓hold_pre,awayP,runOps,regK,step1,newK,genR,appR,obl,buildR,Value.cells,closeK,keepH,outV,retK,ret1,retC,RetV,Option.getD,runD,stepD,afterK,undef,simprocAttr,sxB,↓sxD,sxE,sxTab]))
 refine Stop.go ?_
 refine Go1.mk ?_;repeat' ((first|(with_reducible refine Go1.go ?_)|((with_reducible refine isCall0 (f:=86) ?_);refine callA0 ?_)|((with_reducible refine isCallS (f:=86) ?_);refine (reduce_ok P C S (ofN (y*2^s)) i n q hPl hlC hbl (by omega) (by omega) hoC (okN_ofN _) q1 hB0 q2 q3 (fun C' f1 f2 f3 f4=>Stop.mk ?_)))|((with_reducible refine isDraw [some 62,some 63,some 64,some 65,some 66,some 67,some 68,some 69,some 70,some 71,some 72,some 73,some 74,some 75,some 76,some 77,some 78,some 79,some 80,some 81,some 82,some 83,some 84,none] (by decide) ?_);refine draw_rule [(0,[]),(1,[]),(2,[]),(3,[]),(4,[]),(5,[]),(6,[]),(7,[]),(8,[]),(9,[]),(10,[9]),(11,[9]),(12,[9]),(13,[9]),(14,[9]),(15,[9]),(16,[9]),(17,[9]),(18,[9]),(19,[9,18]),(20,[9]),(21,[]),(22,[]),(23,[])] [[],[],[],[],[],[],[5],[4,5,6],[4,5,6,7],[2,3,4,5,6,7,8],[],[],[],[],[],[14],[13,14,15],[13,14,15,16],[11,12,13,14,15,16,17],[],[11,12,13,14,15,16,17,18,19],[2,3,4,5,6,7,8,9,10,11,12,13,14,15,16,17,18,19,20],[0,1,2,3,4,5,6,7,8,9,10,11,12,13,14,15,16,17,18,19,20,21],[0,1,2,3,4,5,6,7,8,9,10,11,12,13,14,15,16,17,18,19,20,21,22]] [62,63,64,65,66,67,68,69,70,71,72,73,74,75,76,77,78,79,80,81,82,83] [] (by kernel_rfl) (by kernel_rfl) (by kernel_rfl) (by kernel_rfl) (by exact trivial) ?_)|(refine And.intro ?_ ?_;(try simp only[sxO]at *);omega)|fail)<;>(try simp (maxSteps:=1000000) only [cE_ment,hasK_nil,cE_kill,cE_len,u32_one,u32_app1,u32_set,Nat.mul_one,rdH,ej,d2,d3,d4,d5,d6,d7,w5,w6,w7,e5,↓hold_pre,awayP,runOps,regK,step1,newK,genR,appR,obl,buildR,Value.cells,closeK,keepH,outV,retK,ret1,retC,RetV,Option.getD,runD,stepD,afterK,undef,simprocAttr,sxB,↓sxD,sxE,sxTab]))
 rw[valN_ofN]at f3 f4 hdC ⊢
 have st:=step C' _ f1 f2 f3 f4 hdC
 refine Stop.go ?_
 refine Go1.mk ?_;repeat' ((first|(with_reducible refine Go1.go ?_)|((with_reducible refine isDraw [some 62,some 63,some 64,some 65,some 66,some 67,some 68,some 69,some 70,some 71,some 72,some 73,some 74,some 75,some 76,some 77,some 78,some 79,some 80,some 81,some 82,some 83,some 84,none] (by decide) ?_);refine draw_rule [(0,[]),(1,[]),(2,[]),(3,[]),(4,[]),(5,[]),(6,[]),(7,[]),(8,[]),(9,[]),(10,[9]),(11,[9]),(12,[9]),(13,[9]),(14,[9]),(15,[9]),(16,[9]),(17,[9]),(18,[9]),(19,[9,18]),(20,[9]),(21,[]),(22,[]),(23,[])] [[],[],[],[],[],[],[5],[4,5,6],[4,5,6,7],[2,3,4,5,6,7,8],[],[],[],[],[],[14],[13,14,15],[13,14,15,16],[11,12,13,14,15,16,17],[],[11,12,13,14,15,16,17,18,19],[2,3,4,5,6,7,8,9,10,11,12,13,14,15,16,17,18,19,20],[0,1,2,3,4,5,6,7,8,9,10,11,12,13,14,15,16,17,18,19,20,21],[0,1,2,3,4,5,6,7,8,9,10,11,12,13,14,15,16,17,18,19,20,21,22]] [62,63,64,65,66,67,68,69,70,71,72,73,74,75,76,77,78,79,80,81,82,83] [] (by kernel_rfl) (by kernel_rfl) (by kernel_rfl) (by kernel_rfl) (by exact trivial) ?_)|(refine And.intro ?_ ?_;(try simp only[sxO]at *);omega)|fail)<;>(try simp (maxSteps:=1000000) only [cE_ment,hasK_nil,cE_kill,cE_len,u32_one,u32_app1,u32_set,Nat.mul_one,rdH,ej,d2,d3,d4,d5,d6,d7,w5,w6,w7,e5,↓hold_pre,awayP,runOps,regK,step1,newK,genR,appR,obl,buildR,Value.cells,closeK,keepH,outV,retK,ret1,retC,RetV,Option.getD,runD,stepD,afterK,undef,simprocAttr,sxB,↓sxD,sxE,sxTab]))
 exact ⟨i,dvSt M la (la-n+1) n s i _ _ _,by omega,le_sub ⟨rfl,rfl,rfl,rfl,rfl,trivial⟩ ⟨rfl,rfl,rfl,trivial⟩ rfl rfl rfl (keepLt0 _),i,_,_,rfl,by omega,st,rfl⟩
end
end Go.Proofs.Ytjapnklocibgaaa.Sx
