/- Part 37 of the texts of this claim: a symbolic executor and contracts of functions. -/
import Derived.Test.YtiipiciemgdaeaaGreatUAP2
import Derived.RangeFuncNested
import Derived.RangeFuncBound
import Derived.RangeFuncCalls
import Derived.RangeFuncLeaves
import Derived.RangeFuncBox
import Derived.Shelf.Abstract
import Derived.Shelf.RegionOpen
import Derived.WalkKit
import Derived.OwnWalkIn
import Derived.TacticsInMore
import Derived.LoopNIn
import Derived.LoopIn
import Derived.Maps.AppendAt
import Derived.Stop.RegionWithIn
namespace Go.Proofs.YtiipiciemgdaeaaGreat.Sx
open Go Go.RowKit
set_option linter.unusedVariables false
set_option linter.unusedSimpArgs false
set_option maxRecDepth 100000
set_option maxHeartbeats 8000000
attribute [local congr] fin_congr finG_congr stepG_congr step1_congr runOps_congr brv_congr obl_congr condK_congr LoopK_congr seqK_congr CutK_congr vc_congr DrawK_congr regK_congr CallK_congr AskK_congr newK_congr retC_congr ret1_congr retK_congr outV_congr closeK_congr genR_congr appR_congr finD_congr finGD_congr stepGD_congr stepD_congr CallK0_congr runD_congr okR_congr CallS_congr vcX_congr
def dd(l:List Int)(out i k:Nat):Bool:=(List.range k).any fun j=>decide (i<j)&&(out.testBit j&&decide (l.getD j (-1)=(i:Int)))
theorem dd_iff{l:List Int}{out i k:Nat}:dd l out i k=true↔∃j,j<k∧i<j∧out.testBit j=true∧l.getD j (-1)=(i:Int):=by
 simp[dd,List.any_eq_true]
theorem dd_succ{l:List Int}{out i k:Nat}(h:i<k):dd l out i (k+1)=(dd l out i k || (out.testBit k&&decide (l.getD k (-1)=(i:Int)))):=by
 simp[dd,List.range_succ,List.any_append,h]
theorem dd_start{l:List Int}{out i:Nat}:dd l out i (i+1)=false:=by
 rw[Bool.eq_false_iff]
 intro h
 obtain ⟨j,h1,h2,_⟩:=dd_iff.1 h
 omega
def alG(l:List Int)(p:Nat):Nat→Nat→Nat
 | 0,out=>out
 | i+1,out=>alG l p i (if (p.testBit i&&!dd l out i l.length)=true then out+2^i else out)
theorem orAdd{out i:Nat}(h:out % 2^(i+1)=0):out ||| 2^i=out+2^i:=by
 obtain ⟨q,rfl⟩:=Nat.dvd_of_mod_eq_zero h
 exact (Nat.two_pow_add_eq_or_of_lt (Nat.pow_lt_pow_right (by decide) (Nat.lt_succ_self i)) q).symm
theorem mod_down{out i:Nat}(h:out % 2^(i+1)=0):out % 2^i=0:=by
 obtain ⟨q,rfl⟩:=Nat.dvd_of_mod_eq_zero h
 rw[Nat.pow_succ,Nat.mul_assoc]
 exact Nat.mul_mod_right _ _
theorem mod_down2{out i:Nat}(h:out % 2^(i+1)=0):(out+2^i) % 2^i=0:=by
 rw[Nat.add_mod_right];exact mod_down h
theorem bit_low{out i:Nat}(h:out % 2^(i+1)=0):out.testBit i=false:=by
 obtain ⟨q,rfl⟩:=Nat.dvd_of_mod_eq_zero h
 rw[Nat.testBit_two_pow_mul]
 have:¬(i+1≤i):=by omega
 simp[this]
theorem eff_al(l:List Int)(p:Nat)(hl:∀j (h:j<l.length),-1≤l[j]∧l[j]<(j:Int)):∀(i out rev:Nat),i≤l.length→(∀j,j<i→rev.testBit j=dd l out j l.length)→out % 2^i=0→effG l p i out rev=alG l p i out
 | 0,_,_,_,_,_=>rfl
 | i+1,out,rev,hi,hr,ho=>by
  have h1:=hr i (Nat.lt_succ_self i)
  have hlow:=bit_low ho
  have hg:l.getD i (-1)=l[i]:=by simp[List.getD,show i<l.length by omega]
  have hb:=hl i (by omega)
  simp only[effG,alG]
  rw[h1]
  by_cases hc:(p.testBit i&&!dd l out i l.length)=true
  ·rw[if_pos hc,if_pos hc,orAdd ho]
   refine eff_al l p hl i _ _ (by omega) (fun j hj=>?_) (mod_down2 ho)
   have hbit:∀k,(out+2^i).testBit k=(out.testBit k || decide (i=k)):=fun k=>by rw[←orAdd ho,Nat.testBit_or,Nat.testBit_two_pow]
   have h2:dd l (out+2^i) j l.length=(dd l out j l.length || decide (l[i]=(j:Int))):=by
    rw[Bool.eq_iff_iff,Bool.or_eq_true,dd_iff,dd_iff,decide_eq_true_eq]
    constructor
    ·rintro ⟨k,k1,k2,k3,k4⟩
     rw[hbit,Bool.or_eq_true,decide_eq_true_eq]at k3
     rcases k3 with k3|rfl
     ·exact .inl ⟨k,k1,k2,k3,k4⟩
     ·rw[hg]at k4;exact .inr k4
    ·rintro (⟨k,k1,k2,k3,k4⟩|h)
     ·exact ⟨k,k1,k2,by rw[hbit,k3];rfl,k4⟩
     ·exact ⟨i,by omega,hj,by rw[hbit];simp,by rw[hg];exact h⟩
   rw[h2,←hr j (by omega),hg]
   by_cases hd:0≤l[i]
   ·obtain ⟨q,hq⟩:=Int.eq_ofNat_of_zero_le hd
    rw[if_pos (by simpa using hd),Nat.testBit_or,Nat.testBit_two_pow]
    congr 1
    refine decide_eq_decide.2 ?_
    omega
   ·rw[if_neg (by simpa using hd)]
    have:decide (l[i]=(j:Int))=false:=by simp;omega
    rw[this,Bool.or_false]
  ·rw[if_neg hc,if_neg hc]
   exact eff_al l p hl i _ _ (by omega) (fun j hj=>hr j (by omega)) (mod_down ho)
theorem eff_alN{l:List Int}{p:Nat}(hl:chkL l=true):alG l p l.length 0=effN l p:=by
 simp only[chkL,decide_eq_true_eq]at hl
 refine (eff_al l p (fun j h=>hl.2.2 j h h) l.length 0 0 (Nat.le_refl _) (fun j hj=>?_) (by simp)).symm
 rw[Nat.zero_testBit]
 refine (Bool.eq_false_iff.2 fun h=>?_).symm
 obtain ⟨k,_,_,h3,_⟩:=dd_iff.1 h
 simp at h3
section
variable {M:Mem}{K:AV→Hp→Mem→Prop}
def alSt(M:Mem)(u:Value)(p:Nat)(i:Int)(out:Nat):St:={env:=[(6,.ext (.int .i64 i)),(5,.ext (.int .i64 (out:Int))),(4,.ext (.int .i64 0)),(2,.own 2 0),(1,.ext (.int .i64 (p:Int)))],hp:=[(2,27,[.ext u])],M:=M,kb:=0,fx:=[]}
def alI(M:Mem)(u:Value)(l:List Int)(p m:Nat)(z:St):Prop:=∃i out,out<256∧out % 2^m=0∧(m:Int)=i+1∧i<l.length∧alG l p m out=effN l p∧z=alSt M u p i out
def alSt2(M:Mem)(u:Value)(p:Nat)(i:Int)(out:Nat)(al:Bool)(k:Nat):St:={env:=[(8,.ext (.int .i64 (k:Int))),(7,.ext (.bool al)),(6,.ext (.int .i64 i)),(5,.ext (.int .i64 (out:Int))),(4,.ext (.int .i64 0)),(2,.own 2 0),(1,.ext (.int .i64 (p:Int)))],hp:=[(2,27,[.ext u])],M:=M,kb:=0,fx:=[]}
def alI2(M:Mem)(u:Value)(l:List Int)(p j out m:Nat)(z:St):Prop:=∃k al,j<k∧k≤l.length∧m=l.length-k∧al=(p.testBit j&&!dd l out j k)∧z=alSt2 M u p (j:Int) out al k
theorem alive_ok(u:Value)(l:List Int)(p:Nat)(hu:IsL M intV64 u l)(hl':chkL l=true)(hp:p<256)(hK:K (.ext (.int .i64 ((effN l p:Nat):Int))) [] M):CallS Tryz.prog 24 [.ext (rngV u),.ext (.int .i64 (p:Int))] [] M [] K:=by
 have hl:=hl'
 simp only[chkL,decide_eq_true_eq]at hl
 obtain ⟨hl1,hl2,hl3⟩:=hl
 have hw:IntKind.i64.wrap ((l.length:Int)-1)=(l.length:Int)-1:=wrap_id (by omega) (by omega)
 refine inlS (cs:=[]) Tryz.mixed Tryz.func24 rfl (by kernel_rfl) 0 rfl rfl ?_
 simp only[Tryz.f24,rngV]
 (replace hb0:=true_and True);have hf:=A4 hu.one hu.len hu.sl hw;refine sV ?_;(repeat' ((first|((with_reducible first|refine brv_mk ?_ ?_|refine gsplitD ?_ ?_|refine gsplitG ?_ ?_)<;>intro h<;>(try simp only[Bool.not_eq_true',Bool.not_eq_false']at h)<;>replace hb0:=h)|refine oB ?_|fail)<;>refine sV ?_<;>try with_reducible exact tT))<;>try clear hf
 refine ⟨alI M u l p,⟨l.length,alSt M u p ((l.length:Int)-1) 0,le_sub ⟨rfl,rfl,rfl,rfl,rfl,trivial⟩ ⟨rfl,trivial⟩ rfl rfl rfl (keepLt0 _),⟨(l.length:Int)-1,0,by decide,by simp,by omega,by omega,eff_alN hl',rfl⟩⟩,?_⟩
 rintro m z ⟨i,out,ho,hom,hm,hi,he,rfl⟩
 cases m with
 | zero=>
  have h0:decide (0≤i)=false:=by simp;omega
  (replace hb0:=true_and True);have hf:=A5 hu.one hu.len hu.sl @alSt.eq_1 h0;refine sV ?_;(repeat' ((first|((with_reducible first|refine brv_mk ?_ ?_|refine gsplitD ?_ ?_|refine gsplitG ?_ ?_)<;>intro h<;>(try simp only[Bool.not_eq_true',Bool.not_eq_false']at h)<;>replace hb0:=h)|refine oB ?_|fail)<;>refine sV ?_<;>try with_reducible exact tT))<;>try clear hf
  rw[←he]at hK
  exact hK
 | succ j=>
  have ei:i=(j:Int):=by omega
  subst ei
  have hj:j<l.length:=by omega
  have hs:=shl_one (i:=j) (by omega)
  have hj8:=lt_pow8 (show j<8 by omega)
  have hw2:IntKind.i64.wrap ((j:Int)-1)=(j:Int)-1:=wrap_id (by omega) (by omega)
  have hw3:IntKind.i64.wrap ((j:Int)+1)=((j+1:Nat):Int):=by rw[wrap_id (by omega) (by omega)];omega
  have hge:decide (0≤(j:Int))=true:=by simp
  have hor:=or_lt8 ho hj8
  rw[orAdd hom]at hor
  have hadd:IntKind.i64.wrap ((out:Int)+((2^j:Nat):Int))=((out+2^j:Nat):Int):=by rw[wrap_id (by omega) (by omega)];omega
  simp only[alG]at he
  (replace hb0:=true_and True);have hf:=A4 hw3 hge @alSt.eq_1 hu.one;refine sV ?_;(repeat' ((first|((with_reducible first|refine brv_mk ?_ ?_|refine gsplitD ?_ ?_|refine gsplitG ?_ ?_)<;>intro h<;>(try simp only[Bool.not_eq_true',Bool.not_eq_false']at h)<;>replace hb0:=h)|((with_reducible refine yN ?_);refine kS 53 (in_ok p j (by omega) (by omega) ?_))|refine oB ?_|fail)<;>refine sV ?_<;>try with_reducible exact tT))<;>try clear hf
  refine ⟨alI2 M u l p j out,⟨l.length-(j+1),alSt2 M u p (j:Int) out (p.testBit j) (j+1),le_sub ⟨rfl,rfl,rfl,rfl,rfl,rfl,rfl,trivial⟩ ⟨rfl,trivial⟩ rfl rfl rfl (keepLt0 _),⟨j+1,p.testBit j,by omega,by omega,rfl,by rw[dd_start];simp,rfl⟩⟩,?_⟩
  rintro m2 z ⟨k,al,hk1,hk2,rfl,hal,rfl⟩
  by_cases hlt:k<l.length
  ·have hf:=hu.idx (P:=Tryz.prog) (T:=3) tk3 tz3 (by omega) hlt
   have hg:l.getD k (-1)=l[k]:=by simp[List.getD,hlt]
   have hd:=dd_succ (l:=l) (out:=out) hk1
   rw[hg]at hd
   (replace hb0:=true_and True);have hf:=A4 hf @alSt2.eq_1 hu.one @intV64.eq_1;refine sV ?_;(repeat' ((first|((with_reducible first|refine brv_mk ?_ ?_|refine gsplitD ?_ ?_|refine gsplitG ?_ ?_)<;>intro h<;>(try simp only[Bool.not_eq_true',Bool.not_eq_false']at h)<;>replace hb0:=h)|((with_reducible refine yN ?_);refine kS 53 (in_ok out k (by omega) (by omega) ?_))|refine oB ?_|fail)<;>refine sV ?_<;>try with_reducible exact tT))<;>try clear hf
   all_goals clear hf
   all_goals first
    | exact ⟨l.length-(k+1),alSt2 M u p (j:Int) out al (k+1),by omega,le_sub ⟨rfl,rfl,rfl,rfl,rfl,rfl,rfl,trivial⟩ ⟨rfl,trivial⟩ rfl rfl rfl (keepLt0 _),⟨k+1,al,by omega,by omega,rfl,by rw[hd,hal];simp_all,rfl⟩⟩
    | exact ⟨l.length-(k+1),alSt2 M u p (j:Int) out false (k+1),by omega,le_sub ⟨rfl,rfl,rfl,rfl,rfl,rfl,rfl,trivial⟩ ⟨rfl,trivial⟩ rfl rfl rfl (keepLt0 _),⟨k+1,false,by omega,by omega,rfl,by rw[hd];simp_all,rfl⟩⟩
  ·have hf:=hu.fin hlt
   have ek:k=l.length:=by omega
   subst ek
   rw[←hal]at he
   cases al
   ·simp only[Bool.false_eq_true,if_false]at he
    (replace hb0:=true_and True);have hf:=A4 hf @alSt2.eq_1 hu.one hw2;refine sV ?_;(repeat' ((first|((with_reducible first|refine brv_mk ?_ ?_|refine gsplitD ?_ ?_|refine gsplitG ?_ ?_)<;>intro h<;>(try simp only[Bool.not_eq_true',Bool.not_eq_false']at h)<;>replace hb0:=h)|refine oB ?_|fail)<;>refine sV ?_<;>try with_reducible exact tT))<;>try clear hf
    exact ⟨j,alSt M u p ((j:Int)-1) out,by omega,le_sub ⟨rfl,rfl,rfl,rfl,rfl,trivial⟩ ⟨rfl,trivial⟩ rfl rfl rfl (keepLt0 _),(j:Int)-1,out,ho,mod_down hom,by omega,by omega,he,rfl⟩
   ·simp only[if_true]at he
    (replace hb0:=true_and True);have hf:=A6 hf @alSt2.eq_1 hu.one hw2 hs hadd;refine sV ?_;(repeat' ((first|((with_reducible first|refine brv_mk ?_ ?_|refine gsplitD ?_ ?_|refine gsplitG ?_ ?_)<;>intro h<;>(try simp only[Bool.not_eq_true',Bool.not_eq_false']at h)<;>replace hb0:=h)|refine oB ?_|fail)<;>refine sV ?_<;>try with_reducible exact tT))<;>try clear hf
    exact ⟨j,alSt M u p ((j:Int)-1) (out+2^j),by omega,le_sub ⟨rfl,rfl,rfl,rfl,rfl,trivial⟩ ⟨rfl,trivial⟩ rfl rfl rfl (keepLt0 _),(j:Int)-1,out+2^j,hor,mod_down2 hom,by omega,by omega,he,rfl⟩
end
section
variable {M:Mem}{K:AV→Hp→Mem→Prop}
def setB(l:List Int)(s:Int):Bool:=decide (0≤s∧s<2^l.length)
def effR(l:List Int)(s:Int):Int×Int:=if chkL l=true then (if setB l s=true then ((effN l s.toNat:Nat),0) else (0,3)) else (0,1)
def itup(x:Int×Int):Value:=.tuple #[.int .i64 x.1,.int .i64 x.2]
theorem setB_nat{l:List Int}{s:Int}(hl:chkL l=true)(h:setB l s=true):∃p:Nat,s=(p:Int)∧p<256∧p<2^l.length:=by
 simp only[setB,decide_eq_true_eq]at h
 simp only[chkL,decide_eq_true_eq]at hl
 obtain ⟨p,rfl⟩:=Int.eq_ofNat_of_zero_le h.1
 have h2:p<2^l.length:=by
  have h3:=h.2
  exact_mod_cast h3
 have h4:2^l.length≤2^8:=Nat.pow_le_pow_right (by decide) hl.2.1
 exact ⟨p,rfl,by omega,h2⟩
theorem chk_len{l:List Int}(hl:chkL l=true):1≤l.length∧l.length≤8:=by
 simp only[chkL,decide_eq_true_eq]at hl;exact ⟨hl.1,hl.2.1⟩
theorem Effective_ok(u:Value)(l:List Int)(s:Int)(hu:IsL M intV64 u l)(hb:l.length<1000000000)(hK:K (.ext (itup (effR l s))) [] M):CallS Tryz.prog 103 [.ext (rngV u),.ext (.int .i64 s)] [] M [] K:=by
 refine inlS (cs:=[]) Tryz.mixed Tryz.func103 rfl (by kernel_rfl) 0 rfl rfl ?_
 simp only[Tryz.f103,rngV]
 cases hc:chkL l
 ·simp only[effR,hc,itup,Bool.false_eq_true,if_false]at hK
  (replace hb0:=true_and True);have hf:=A2 hu.one hc;refine sV ?_;(repeat' ((first|((with_reducible first|refine brv_mk ?_ ?_|refine gsplitD ?_ ?_|refine gsplitG ?_ ?_)<;>intro h<;>(try simp only[Bool.not_eq_true',Bool.not_eq_false']at h)<;>replace hb0:=h)|((with_reducible refine yN ?_);refine kS 115 (pchk_ok u l hu hb ?_))|refine oB ?_|fail)<;>refine sV ?_<;>try with_reducible exact tT))<;>try clear hf
  exact hK
 ·have hlen:=chk_len hc
  cases hs:setB l s
  ·simp only[effR,hc,hs,itup,Bool.false_eq_true,if_false,if_true]at hK
   simp only[setB]at hs
   (replace hb0:=true_and True);have hf:=A3 hu.one hc hs;refine sV ?_;(repeat' ((first|((with_reducible first|refine brv_mk ?_ ?_|refine gsplitD ?_ ?_|refine gsplitG ?_ ?_)<;>intro h<;>(try simp only[Bool.not_eq_true',Bool.not_eq_false']at h)<;>replace hb0:=h)|((with_reducible refine yN ?_);first|refine kS 115 (pchk_ok u l hu hb ?_)|refine kS 150 (isSet_ok u l _ hu (by omega) ?_))|refine oB ?_|fail)<;>refine sV ?_<;>try with_reducible exact tT))<;>try clear hf
   exact hK
  ·obtain ⟨p,rfl,hp,_⟩:=setB_nat hc hs
   simp only[effR,hc,hs,itup,if_true,Int.toNat_natCast]at hK
   simp only[setB]at hs
   (replace hb0:=true_and True);have hf:=A3 hu.one hc hs;refine sV ?_;(repeat' ((first|((with_reducible first|refine brv_mk ?_ ?_|refine gsplitD ?_ ?_|refine gsplitG ?_ ?_)<;>intro h<;>(try simp only[Bool.not_eq_true',Bool.not_eq_false']at h)<;>replace hb0:=h)|((with_reducible refine yN ?_);first|refine kS 115 (pchk_ok u l hu hb ?_)|refine kS 150 (isSet_ok u l _ hu (by omega) ?_)|refine kS 151 (effective_ok u l p hu hc hp ?_))|refine oB ?_|fail)<;>refine sV ?_<;>try with_reducible exact tT))<;>try clear hf
   exact hK
def ones(s:Nat):Nat→Nat
 | 0=>0
 | i+1=>ones s i+(if s.testBit i=true then 1 else 0)
theorem ones_le(s:Nat):∀i,ones s i≤i
 | 0=>Nat.le_refl _
 | i+1=>by have:=ones_le s i;simp only[ones];split<;>omega
def sizeSt(M:Mem)(s n i:Nat):St:={env:=[(4,.ext (.int .i64 (i:Int))),(3,.ext (.int .i64 (n:Int))),(2,.ext (.int .i64 0)),(0,.ext (.int .i64 (s:Int)))],hp:=[],M:=M,kb:=0,fx:=[]}
theorem size_ok(s:Nat)(hs:s<2^63)(hK:K (.ext (.int .i64 ((ones s 8:Nat):Int))) [] M):CallS Tryz.prog 129 [.ext (.int .i64 (s:Int))] [] M [] K:=by
 refine inlS (cs:=[]) Tryz.mixed Tryz.func129 rfl (by kernel_rfl) 0 rfl rfl ?_
 simp only[Tryz.f129]
 (replace hb0:=true_and True);refine sW ?_;(repeat' ((first|((with_reducible first|refine brv_mk ?_ ?_|refine gsplitD ?_ ?_|refine gsplitG ?_ ?_)<;>intro h<;>(try simp only[Bool.not_eq_true',Bool.not_eq_false']at h)<;>replace hb0:=h)|refine oB ?_|fail)<;>refine sW ?_<;>try with_reducible exact tT))
 refine ⟨fun m z=>∃i,i≤8∧m=8-i∧z=sizeSt M s (ones s i) i,⟨8,sizeSt M s 0 0,le_sub ⟨rfl,rfl,rfl,rfl,trivial⟩ trivial rfl rfl rfl (keepLt0 _),⟨0,by omega,rfl,rfl⟩⟩,?_⟩
 rintro m z ⟨i,hi,rfl,rfl⟩
 by_cases h8:i<8
 ·have hd:decide ((i:Int)<8)=true:=by simp;omega
  have hw:IntKind.i64.wrap ((i:Int)+1)=((i+1:Nat):Int):=by rw[wrap_id (by omega) (by omega)];omega
  have:=ones_le s i
  have hw2:IntKind.i64.wrap (((ones s i:Nat):Int)+1)=((ones s i+1:Nat):Int):=by rw[wrap_id (by omega) (by omega)];omega
  cases ht:s.testBit i
  ·have he:ones s (i+1)=ones s i:=by simp[ones,ht]
   (replace hb0:=true_and True);have hf:=A5 @sizeSt.eq_1 @hd hw hw2 ht;refine sV ?_;(repeat' ((first|((with_reducible first|refine brv_mk ?_ ?_|refine gsplitD ?_ ?_|refine gsplitG ?_ ?_)<;>intro h<;>(try simp only[Bool.not_eq_true',Bool.not_eq_false']at h)<;>replace hb0:=h)|((with_reducible refine yN ?_);refine kS 53 (in_ok s i hs (by omega) ?_))|refine oB ?_|fail)<;>refine sV ?_<;>try with_reducible exact tT))<;>try clear hf
   exact ⟨8-(i+1),sizeSt M s (ones s i) (i+1),by omega,le_sub ⟨rfl,rfl,rfl,rfl,trivial⟩ trivial rfl rfl rfl (keepLt0 _),i+1,by omega,rfl,by rw[he];rfl⟩
  ·have he:ones s (i+1)=ones s i+1:=by simp[ones,ht]
   (replace hb0:=true_and True);have hf:=A5 @sizeSt.eq_1 @hd hw hw2 ht;refine sV ?_;(repeat' ((first|((with_reducible first|refine brv_mk ?_ ?_|refine gsplitD ?_ ?_|refine gsplitG ?_ ?_)<;>intro h<;>(try simp only[Bool.not_eq_true',Bool.not_eq_false']at h)<;>replace hb0:=h)|((with_reducible refine yN ?_);refine kS 53 (in_ok s i hs (by omega) ?_))|refine oB ?_|fail)<;>refine sV ?_<;>try with_reducible exact tT))<;>try clear hf
   exact ⟨8-(i+1),sizeSt M s (ones s i+1) (i+1),by omega,le_sub ⟨rfl,rfl,rfl,rfl,trivial⟩ trivial rfl rfl rfl (keepLt0 _),i+1,by omega,rfl,by rw[he];rfl⟩
 ·have hd:decide ((i:Int)<8)=false:=by simp;omega
  have ei:i=8:=by omega
  subst ei
  (replace hb0:=true_and True);have hf:=A2 @sizeSt.eq_1 @hd;refine sV ?_;(repeat' ((first|((with_reducible first|refine brv_mk ?_ ?_|refine gsplitD ?_ ?_|refine gsplitG ?_ ?_)<;>intro h<;>(try simp only[Bool.not_eq_true',Bool.not_eq_false']at h)<;>replace hb0:=h)|refine oB ?_|fail)<;>refine sV ?_<;>try with_reducible exact tT))<;>try clear hf
  exact hK
theorem ones64_ok(x:Nat)(hx:x<256)(hK:K (.ext (.int .i64 ((ones x 8:Nat):Int))) [] M):CallS Tryz.prog 187 [.ext (.int .u64 (x:Int))] [] M [] K:=by
 refine inlS (cs:=[]) Tryz.mixed Tryz.func187 rfl (by kernel_rfl) 0 rfl rfl ?_
 simp only[Tryz.f187]
 (replace hb0:=true_and True);refine sW ?_;(repeat' ((first|((with_reducible first|refine brv_mk ?_ ?_|refine gsplitD ?_ ?_|refine gsplitG ?_ ?_)<;>intro h<;>(try simp only[Bool.not_eq_true',Bool.not_eq_false']at h)<;>replace hb0:=h)|refine oB ?_|fail)<;>refine sW ?_<;>try with_reducible exact tT))
 refine cast (congrArg (fun v=>K (.ext (.int .i64 v)) [] M) ?_) hK
 clear hK
 revert x
 decide +kernel
theorem onesCount_ok(x:Nat)(hx:x<256)(hK:K (.ext (.int .i64 ((ones x 8:Nat):Int))) [] M):CallS Tryz.prog 175 [.ext (.int .u64 (x:Int))] [] M [] K:=by
 refine inlS (cs:=[]) Tryz.mixed Tryz.func175 rfl (by kernel_rfl) 0 rfl rfl ?_
 simp only[Tryz.f175]
 (replace hb0:=true_and True);refine sW ?_;(repeat' ((first|((with_reducible first|refine brv_mk ?_ ?_|refine gsplitD ?_ ?_|refine gsplitG ?_ ?_)<;>intro h<;>(try simp only[Bool.not_eq_true',Bool.not_eq_false']at h)<;>replace hb0:=h)|((with_reducible refine yN ?_);refine kS 187 (ones64_ok x hx ?_))|refine oB ?_|fail)<;>refine sW ?_<;>try with_reducible exact tT))
 exact hK
end
def ivA(a b:Nat):List Nat:=(List.range' a (b-a)).map fun j=>2^(j+1)-2^a
def ivP(a n:Nat):List Nat:=(List.range a).flatMap fun i=>ivA i n
def ivN(n:Nat):List Nat:=ivP n n
theorem ivA_succ{a b:Nat}(h:a≤b):ivA a (b+1)=ivA a b++[2^(b+1)-2^a]:=by
 have h1:b+1-a=(b-a)+1:=by omega
 have h2:a+(b-a)=b:=by omega
 simp[ivA,h1,List.range'_concat,h2]
theorem ivA_start(a:Nat):ivA a a=[]:=by simp[ivA]
theorem ivA_len(a b:Nat):(ivA a b).length=b-a:=by simp[ivA]
theorem ivP_succ(a n:Nat):ivP (a+1) n=ivP a n++ivA a n:=by simp[ivP,List.range_succ]
theorem ivP_len(a n:Nat):(ivP a n).length≤a*n:=by
 induction a with
 | zero=>simp[ivP]
 | succ a ih=>rw[ivP_succ,List.length_append,ivA_len,Nat.succ_mul];omega
section
variable {M:Mem}{K:AV→Hp→Mem→Prop}
def ivSt(M:Mem)(n a m:Nat)(L:List Nat):St:={env:=[(13,.ext (.int .i64 (a:Int))),(12,.ext (.int .i64 (n:Int))),(3,.slo 3 0 m 1),(2,.ext (.slice none 0 0)),(0,.ext (.int .i64 (n:Int)))],hp:=[(3,3,cE natV L)],M:=M,kb:=0,fx:=[]}
def ivSt2(M:Mem)(n a b m:Nat)(L:List Nat):St:={env:=[(5,.ext (.int .i64 (b:Int))),(4,.ext (.int .i64 (a:Int))),(13,.ext (.int .i64 (a:Int))),(12,.ext (.int .i64 (n:Int))),(3,.slo 3 0 m 1),(2,.ext (.slice none 0 0)),(0,.ext (.int .i64 (n:Int)))],hp:=[(3,3,cE natV L)],M:=M,kb:=0,fx:=[]}
def ivI(M:Mem)(n k:Nat)(z:St):Prop:=∃a m,a≤n∧k=n-a∧m=(ivP a n).length∧z=ivSt M n a m (ivP a n)
def ivI2(M:Mem)(n a k:Nat)(z:St):Prop:=∃b m,a≤b∧b≤n∧k=n-b∧m=(ivP a n++ivA a b).length∧z=ivSt2 M n a b m (ivP a n++ivA a b)
theorem intervals_ok(n:Nat)(h1:1≤n)(h8:n≤8)(hK:∀u M',Mem.le M M'→IsL M' natV u (ivN n)→FreshS M u→K (.ext u) [] M'):CallS Tryz.prog 101 [.ext (.int .i64 (n:Int))] [] M [] K:=by
 refine CallS.frzF ?_
 refine inlS (cs:=[]) Tryz.mixed Tryz.func101 rfl (by kernel_rfl) 0 rfl rfl ?_
 simp only[Tryz.f101]
 have g1:decide ((n:Int)<1)=false:=by simp;omega
 have g2:decide (8<(n:Int))=false:=by simp;omega
 (replace hb0:=true_and True);have hf:=A2 g1 g2;refine sV ?_;(repeat' ((first|((with_reducible first|refine brv_mk ?_ ?_|refine gsplitD ?_ ?_|refine gsplitG ?_ ?_)<;>intro h<;>(try simp only[Bool.not_eq_true',Bool.not_eq_false']at h)<;>replace hb0:=h)|((with_reducible refine isE 22 (by decide) ?_);refine dR (rP 0 10 [] []) (rgL 22 8 []) [] ?_)|refine oB ?_|fail)<;>refine sV ?_<;>try with_reducible exact tT))<;>try clear hf
 refine ⟨ivI M n,⟨n,ivSt M n 0 0 [],(le_nil 3 3 3 1 rfl (.inl rfl)).trans (le_sub ⟨rfl,rfl,rfl,rfl,rfl,trivial⟩ ⟨rfl,trivial⟩ rfl rfl rfl (keepLt0 _)),⟨0,0,by omega,by omega,rfl,rfl⟩⟩,?_⟩
 rintro k z ⟨a,m,ha,rfl,hm,rfl⟩
 have hpl:=ivP_len a n
 have hpl2:a*n≤8*8:=Nat.mul_le_mul (by omega) h8
 by_cases hlt:a<n
 ·have d1:decide ((a:Int)<(n:Int))=true:=by simp;omega
  have hwa:IntKind.i64.wrap ((a:Int)+1)=((a+1:Nat):Int):=by rw[wrap_id (by omega) (by omega)];omega
  (replace hb0:=true_and True);have hf:=A2 d1 @ivSt.eq_1;refine sV ?_;(repeat' ((first|((with_reducible first|refine brv_mk ?_ ?_|refine gsplitD ?_ ?_|refine gsplitG ?_ ?_)<;>intro h<;>(try simp only[Bool.not_eq_true',Bool.not_eq_false']at h)<;>replace hb0:=h)|((with_reducible refine isE 22 (by decide) ?_);refine dR (rP 0 10 [] []) (rgL 22 8 []) [] ?_)|refine oB ?_|fail)<;>refine sV ?_<;>try with_reducible exact tT))<;>try clear hf
  refine ⟨ivI2 M n a,⟨n-a,ivSt2 M n a a m (ivP a n),le_sub ⟨rfl,rfl,rfl,rfl,rfl,rfl,rfl,trivial⟩ ⟨rfl,trivial⟩ rfl rfl rfl (keepLt0 _),⟨a,m,by omega,by omega,rfl,by rw[ivA_start,List.append_nil];exact hm,by rw[ivA_start,List.append_nil]⟩⟩,?_⟩
  rintro k2 z ⟨b,m2,hb1,hb2,rfl,hm2,rfl⟩
  have hal:=ivA_len a b
  have hm3:m2≤72:=by rw[hm2,List.length_append];omega
  by_cases hlt2:b<n
  ·have d2:decide ((b:Int)<(n:Int))=true:=by simp;omega
   have hwb:IntKind.i64.wrap ((b:Int)+1)=((b+1:Nat):Int):=by rw[wrap_id (by omega) (by omega)];omega
   have hs1:=shl_one (i:=b+1) (by omega)
   have hs2:=shl_one (i:=a) (by omega)
   have hp1:2^(b+1)≤2^8:=Nat.pow_le_pow_right (by decide) (by omega)
   have hp2:2^a≤2^(b+1):=Nat.pow_le_pow_right (by decide) (by omega)
   have hsub:IntKind.i64.wrap (((2^(b+1):Nat):Int)-((2^a:Nat):Int))=((2^(b+1)-2^a:Nat):Int):=by rw[←Int.ofNat_sub hp2];exact wrap_nat (Nat.lt_of_le_of_lt (Nat.sub_le _ _) (Nat.lt_of_le_of_lt hp1 (by decide)))
   have hlen:(cE natV (ivP a n++ivA a b)).length=m2:=by rw[cE_len];exact hm2.symm
   have hsn:cE natV (ivP a n++ivA a b)++[.ext (.int .i64 ((2^(b+1)-2^a:Nat):Int))]=cE natV (ivP a n++ivA a (b+1)):=by
    rw[ivA_succ hb1,←List.append_assoc]
    exact cE_snoc natV _ (2^(b+1)-2^a)
   have hmt:=cE_ment natV (ivP a n++ivA a b)
   (replace hb0:=true_and True);have hf:=A10 d2 hwb hs1 hs2 hsub hlen hsn hmt @hasK_nil @ivSt2.eq_1;refine sV ?_;(repeat' ((first|((with_reducible first|refine brv_mk ?_ ?_|refine gsplitD ?_ ?_|refine gsplitG ?_ ?_)<;>intro h<;>(try simp only[Bool.not_eq_true',Bool.not_eq_false']at h)<;>replace hb0:=h)|((with_reducible refine isE 22 (by decide) ?_);refine dR (rP 0 10 [] []) (rgL 22 8 []) [] ?_)|refine oB ?_|fail)<;>refine sV ?_<;>try with_reducible exact tT))<;>try clear hf
   exact ⟨n-(b+1),ivSt2 M n a (b+1) (m2+1) (ivP a n++ivA a (b+1)),by omega,le_sub ⟨rfl,rfl,rfl,rfl,rfl,rfl,rfl,trivial⟩ ⟨rfl,trivial⟩ rfl rfl rfl (keepLt0 _),b+1,m2+1,by omega,by omega,rfl,by rw[hm2,ivA_succ hb1,←List.append_assoc,List.length_append (bs:=[_])];rfl,rfl⟩
  ·have d2:decide ((b:Int)<(n:Int))=false:=by simp;omega
   have eb:b=n:=by omega
   subst eb
   rw[←ivP_succ]at hm2
   (replace hb0:=true_and True);have hf:=A3 d2 hwa @ivSt2.eq_1;refine sV ?_;(repeat' ((first|((with_reducible first|refine brv_mk ?_ ?_|refine gsplitD ?_ ?_|refine gsplitG ?_ ?_)<;>intro h<;>(try simp only[Bool.not_eq_true',Bool.not_eq_false']at h)<;>replace hb0:=h)|((with_reducible refine isE 22 (by decide) ?_);refine dR (rP 0 10 [] []) (rgL 22 8 []) [] ?_)|refine oB ?_|fail)<;>refine sV ?_<;>try with_reducible exact tT))<;>try clear hf
   exact ⟨b-(a+1),ivSt M b (a+1) m2 (ivP (a+1) b),by omega,le_sub ⟨rfl,rfl,rfl,rfl,rfl,trivial⟩ ⟨by rw[ivP_succ];rfl,trivial⟩ rfl rfl rfl (keepLt0 _),a+1,m2,by omega,rfl,hm2,rfl⟩
 ·have d1:decide ((a:Int)<(n:Int))=false:=by simp;omega
  have ea:a=n:=by omega
  subst ea
  (replace hb0:=true_and True);have hf:=A3 d1 @ivSt.eq_1 @cE_ment;refine sV ?_;(repeat' ((first|((with_reducible first|refine brv_mk ?_ ?_|refine gsplitD ?_ ?_|refine gsplitG ?_ ?_)<;>intro h<;>(try simp only[Bool.not_eq_true',Bool.not_eq_false']at h)<;>replace hb0:=h)|((with_reducible refine isE 22 (by decide) ?_);refine dR (rP 0 10 [] []) (rgL 22 8 []) [] ?_)|refine oB ?_|fail)<;>refine sV ?_<;>try with_reducible exact tT))<;>try clear hf
  refine FrzF.one ((ivP a a).map natV) rfl (by rw[hm];simp) (fun u M'' hM hs hf=>hK u M'' hM ?_ hf)
  rw[hm]at hs
  exact hs
end
section
variable {M:Mem}{K:AV→Hp→Mem→Prop}
def ivRSt(M:Mem)(n a m:Nat)(L:List Nat):St:={env:=[(4,.ext (.int .i64 (a:Int))),(3,.slo 3 0 m 1),(2,.ext (.slice none 0 0)),(0,.ext (.int .i64 (n:Int)))],hp:=[(3,3,cE natV L)],M:=M,kb:=0,fx:=[]}
def ivRSt2(M:Mem)(n a b m s:Nat)(L:List Nat):St:={env:=[(6,.ext (.int .i64 (b:Int))),(5,.ext (.int .i64 (s:Int))),(4,.ext (.int .i64 (a:Int))),(3,.slo 3 0 m 1),(2,.ext (.slice none 0 0)),(0,.ext (.int .i64 (n:Int)))],hp:=[(3,3,cE natV L)],M:=M,kb:=0,fx:=[]}
def ivRI(M:Mem)(n k:Nat)(z:St):Prop:=∃a m,a≤n∧k=n-a∧m=(ivP a n).length∧z=ivRSt M n a m (ivP a n)
def ivRI2(M:Mem)(n a k:Nat)(z:St):Prop:=∃b m s,a≤b∧b≤n∧k=n-b∧s=2^b-2^a∧m=(ivP a n++ivA a b).length∧z=ivRSt2 M n a b m s (ivP a n++ivA a b)
theorem sub_dbl{s X Y:Nat}(h:s=X-Y)(h2:Y≤X):s+X=X+X-Y:=by omega
theorem intervalsR_ok(n:Nat)(h1:1≤n)(h8:n≤8)(hK:∀u M',Mem.le M M'→IsL M' natV u (ivN n)→FreshS M u→K (.ext u) [] M'):CallS Tryz.prog 146 [.ext (.int .i64 (n:Int))] [] M [] K:=by
 refine CallS.frzF ?_
 refine inlS (cs:=[]) Tryz.mixed Tryz.func146 rfl (by kernel_rfl) 0 rfl rfl ?_
 simp only[Tryz.f146]
 have g1:decide ((n:Int)<1)=false:=by simp;omega
 have g2:decide (8<(n:Int))=false:=by simp;omega
 (replace hb0:=true_and True);have hf:=A2 g1 g2;refine sV ?_;(repeat' ((first|((with_reducible first|refine brv_mk ?_ ?_|refine gsplitD ?_ ?_|refine gsplitG ?_ ?_)<;>intro h<;>(try simp only[Bool.not_eq_true',Bool.not_eq_false']at h)<;>replace hb0:=h)|refine oB ?_|fail)<;>refine sV ?_<;>try with_reducible exact tT))<;>try clear hf
 refine ⟨ivRI M n,⟨n,ivRSt M n 0 0 [],(le_nil 3 3 3 1 rfl (.inl rfl)).trans (le_sub ⟨rfl,rfl,rfl,rfl,trivial⟩ ⟨rfl,trivial⟩ rfl rfl rfl (keepLt0 _)),⟨0,0,by omega,by omega,rfl,rfl⟩⟩,?_⟩
 rintro k z ⟨a,m,ha,rfl,hm,rfl⟩
 have hpl:=ivP_len a n
 have hpl2:a*n≤8*8:=Nat.mul_le_mul (by omega) h8
 by_cases hlt:a<n
 ·have d1:decide ((a:Int)<(n:Int))=true:=by simp;omega
  have hwa:IntKind.i64.wrap ((a:Int)+1)=((a+1:Nat):Int):=by rw[wrap_id (by omega) (by omega)];omega
  (replace hb0:=true_and True);have hf:=A2 d1 @ivRSt.eq_1;refine sV ?_;(repeat' ((first|((with_reducible first|refine brv_mk ?_ ?_|refine gsplitD ?_ ?_|refine gsplitG ?_ ?_)<;>intro h<;>(try simp only[Bool.not_eq_true',Bool.not_eq_false']at h)<;>replace hb0:=h)|refine oB ?_|fail)<;>refine sV ?_<;>try with_reducible exact tT))<;>try clear hf
  refine ⟨ivRI2 M n a,⟨n-a,ivRSt2 M n a a m 0 (ivP a n),le_sub ⟨rfl,rfl,rfl,rfl,rfl,rfl,trivial⟩ ⟨rfl,trivial⟩ rfl rfl rfl (keepLt0 _),⟨a,m,0,by omega,by omega,rfl,by simp,by rw[ivA_start,List.append_nil];exact hm,by rw[ivA_start,List.append_nil]⟩⟩,?_⟩
  rintro k2 z ⟨b,m2,s,hb1,hb2,rfl,hs,hm2,rfl⟩
  have hal:=ivA_len a b
  have hm3:m2≤72:=by rw[hm2,List.length_append];omega
  by_cases hlt2:b<n
  ·have d2:decide ((b:Int)<(n:Int))=true:=by simp;omega
   have hwb:IntKind.i64.wrap ((b:Int)+1)=((b+1:Nat):Int):=by rw[wrap_id (by omega) (by omega)];omega
   have hs1:=shl_one (i:=b) (by omega)
   have hp1:2^(b+1)≤2^8:=Nat.pow_le_pow_right (by decide) (by omega)
   have hp2:2^a≤2^b:=Nat.pow_le_pow_right (by decide) (by omega)
   have hp3:2^(b+1)=2^b+2^b:=by rw[Nat.pow_succ];omega
   have e2:s+2^b=2^(b+1)-2^a:=by rw[hp3];exact sub_dbl hs hp2
   have hadd:IntKind.i64.wrap ((s:Int)+((2^b:Nat):Int))=((s+2^b:Nat):Int):=by
    have e3:(s:Int)+((2^b:Nat):Int)=((s+2^b:Nat):Int):=(Int.natCast_add s (2^b)).symm
    rw[e3];exact wrap_nat (Nat.lt_of_le_of_lt (show s+2^b≤2^8 by rw[e2];exact Nat.le_trans (Nat.sub_le _ _) hp1) (by decide))
   have hlen:(cE natV (ivP a n++ivA a b)).length=m2:=by rw[cE_len];exact hm2.symm
   have hsn:cE natV (ivP a n++ivA a b)++[.ext (.int .i64 ((s+2^b:Nat):Int))]=cE natV (ivP a n++ivA a (b+1)):=by
    rw[ivA_succ hb1,←List.append_assoc,←e2]
    exact cE_snoc natV _ (s+2^b)
   have hmt:=cE_ment natV (ivP a n++ivA a b)
   (replace hb0:=true_and True);have hf:=A9 d2 hwb hs1 hadd hlen hsn hmt @hasK_nil @ivRSt2.eq_1;refine sV ?_;(repeat' ((first|((with_reducible first|refine brv_mk ?_ ?_|refine gsplitD ?_ ?_|refine gsplitG ?_ ?_)<;>intro h<;>(try simp only[Bool.not_eq_true',Bool.not_eq_false']at h)<;>replace hb0:=h)|refine oB ?_|fail)<;>refine sV ?_<;>try with_reducible exact tT))<;>try clear hf
   exact ⟨n-(b+1),ivRSt2 M n a (b+1) (m2+1) (s+2^b) (ivP a n++ivA a (b+1)),by omega,le_sub ⟨rfl,rfl,rfl,rfl,rfl,rfl,trivial⟩ ⟨rfl,trivial⟩ rfl rfl rfl (keepLt0 _),b+1,m2+1,s+2^b,by omega,by omega,rfl,e2,by rw[hm2,ivA_succ hb1,←List.append_assoc,List.length_append (bs:=[_])];rfl,rfl⟩
  ·have d2:decide ((b:Int)<(n:Int))=false:=by simp;omega
   have eb:b=n:=by omega
   subst eb
   rw[←ivP_succ]at hm2
   (replace hb0:=true_and True);have hf:=A3 d2 hwa @ivRSt2.eq_1;refine sV ?_;(repeat' ((first|((with_reducible first|refine brv_mk ?_ ?_|refine gsplitD ?_ ?_|refine gsplitG ?_ ?_)<;>intro h<;>(try simp only[Bool.not_eq_true',Bool.not_eq_false']at h)<;>replace hb0:=h)|refine oB ?_|fail)<;>refine sV ?_<;>try with_reducible exact tT))<;>try clear hf
   exact ⟨b-(a+1),ivRSt M b (a+1) m2 (ivP (a+1) b),by omega,le_sub ⟨rfl,rfl,rfl,rfl,trivial⟩ ⟨by rw[ivP_succ];rfl,trivial⟩ rfl rfl rfl (keepLt0 _),a+1,m2,by omega,rfl,hm2,rfl⟩
 ·have d1:decide ((a:Int)<(n:Int))=false:=by simp;omega
  have ea:a=n:=by omega
  subst ea
  (replace hb0:=true_and True);have hf:=A3 d1 @ivRSt.eq_1 @cE_ment;refine sV ?_;(repeat' ((first|((with_reducible first|refine brv_mk ?_ ?_|refine gsplitD ?_ ?_|refine gsplitG ?_ ?_)<;>intro h<;>(try simp only[Bool.not_eq_true',Bool.not_eq_false']at h)<;>replace hb0:=h)|refine oB ?_|fail)<;>refine sV ?_<;>try with_reducible exact tT))<;>try clear hf
  refine FrzF.one ((ivP a a).map natV) rfl (by rw[hm];simp) (fun u M'' hM hs hf=>hK u M'' hM ?_ hf)
  rw[hm]at hs
  exact hs
def sameSt(M:Mem)(u1 u2:Value)(i:Nat):St:={env:=[(5,.ext (.int .i64 (i:Int))),(4,.ext (.bool false)),(1,.ext u2),(0,.ext u1)],hp:=[],M:=M,kb:=0,fx:=[]}
theorem sameInts_ok(u1 u2:Value)(l1 l2:List Int)(h1:IsL M intV64 u1 l1)(h2:IsL M intV64 u2 l2)(hb:l1.length<1000000000)(hb2:l2.length<1000000000)(hK:K (.ext (.bool (decide (l1=l2)))) [] M):CallS Tryz.prog 48 [.ext u1,.ext u2] [] M [] K:=by
 refine inlS (cs:=[]) Tryz.mixed Tryz.func48 rfl (by kernel_rfl) 0 rfl rfl ?_
 simp only[Tryz.f48]
 by_cases hl:l1.length=l2.length
 ·have hl2:decide ((l1.length:Int)=(l2.length:Int))=true:=by simp[hl]
  (replace hb0:=true_and True);have hf:=A5 h1.len h1.sl h2.len h2.sl hl2;refine sV ?_;(repeat' ((first|((with_reducible first|refine brv_mk ?_ ?_|refine gsplitD ?_ ?_|refine gsplitG ?_ ?_)<;>intro h<;>(try simp only[Bool.not_eq_true',Bool.not_eq_false']at h)<;>replace hb0:=h)|((with_reducible refine isE 17 (by decide) ?_);refine dR (rP 0 4 [] (rP 4 4 [3] [(8,[])])) (rgL 17 8 []) [] ?_)|refine oB ?_|fail)<;>refine sV ?_<;>try with_reducible exact tT))<;>try clear hf
  refine ⟨fun m z=>∃i,i≤l1.length∧l1.take i=l2.take i∧m=l1.length-i∧z=sameSt M u1 u2 i,⟨l1.length,sameSt M u1 u2 0,le_sub ⟨rfl,rfl,rfl,rfl,trivial⟩ trivial rfl rfl rfl (keepLt0 _),⟨0,by omega,rfl,rfl,rfl⟩⟩,?_⟩
  rintro m z ⟨i,hi,hpre,rfl,rfl⟩
  by_cases hlt:i<l1.length
  ·have hlt2:i<l2.length:=by omega
   have f1:=h1.idx (P:=Tryz.prog) (T:=3) tk3 tz3 (by omega) hlt
   have f2:=h2.idx (P:=Tryz.prog) (T:=3) tk3 tz3 (by omega) hlt2
   (replace hb0:=true_and True);have hf:=A4 f1 f2 @intV64.eq_1 @sameSt.eq_1;refine sV ?_;(repeat' ((first|((with_reducible first|refine brv_mk ?_ ?_|refine gsplitD ?_ ?_|refine gsplitG ?_ ?_)<;>intro h<;>(try simp only[Bool.not_eq_true',Bool.not_eq_false']at h)<;>replace hb0:=h)|((with_reducible refine isE 17 (by decide) ?_);refine dR (rP 0 4 [] (rP 4 4 [3] [(8,[])])) (rgL 17 8 []) [] ?_)|refine oB ?_|fail)<;>refine sV ?_<;>try with_reducible exact tT))<;>try clear hf
   ·have e:decide (l1=l2)=false:=by
     simp only[Bool.not_eq_true',decide_eq_false_iff_not]at h ⊢
     intro e;subst e;exact h rfl
    rw[e]at hK;exact hK
   ·simp only[Bool.not_eq_false',decide_eq_true_eq]at h
    refine ⟨l1.length-(i+1),sameSt M u1 u2 (i+1),by omega,le_sub ⟨rfl,rfl,rfl,rfl,trivial⟩ trivial rfl rfl rfl (keepLt0 _),i+1,by omega,?_,rfl,rfl⟩
    rw[List.take_succ_eq_append_getElem hlt,List.take_succ_eq_append_getElem hlt2,hpre,h]
  ·have f1:=h1.fin hlt
   have ei:i=l1.length:=by omega
   subst ei
   rw[List.take_length,hl,List.take_length]at hpre
   have e:decide (l1=l2)=true:=by simp[hpre]
   rw[e]at hK
   (replace hb0:=true_and True);have hf:=A2 f1 @sameSt.eq_1;refine sV ?_;(repeat' ((first|((with_reducible first|refine brv_mk ?_ ?_|refine gsplitD ?_ ?_|refine gsplitG ?_ ?_)<;>intro h<;>(try simp only[Bool.not_eq_true',Bool.not_eq_false']at h)<;>replace hb0:=h)|((with_reducible refine isE 17 (by decide) ?_);refine dR (rP 0 4 [] (rP 4 4 [3] [(8,[])])) (rgL 17 8 []) [] ?_)|refine oB ?_|fail)<;>refine sV ?_<;>try with_reducible exact tT))<;>try clear hf
   exact hK
 ·have hl2:decide ((l1.length:Int)=(l2.length:Int))=false:=by simp;omega
  have e:decide (l1=l2)=false:=by
   simp only[decide_eq_false_iff_not]
   intro e;subst e;exact hl rfl
  rw[e]at hK
  (replace hb0:=true_and True);have hf:=A5 h1.len h1.sl h2.len h2.sl hl2;refine sV ?_;(repeat' ((first|((with_reducible first|refine brv_mk ?_ ?_|refine gsplitD ?_ ?_|refine gsplitG ?_ ?_)<;>intro h<;>(try simp only[Bool.not_eq_true',Bool.not_eq_false']at h)<;>replace hb0:=h)|((with_reducible refine isE 17 (by decide) ?_);refine dR (rP 0 4 [] (rP 4 4 [3] [(8,[])])) (rgL 17 8 []) [] ?_)|refine oB ?_|fail)<;>refine sV ?_<;>try with_reducible exact tT))<;>try clear hf
  exact hK
theorem IsL.nat{u:Value}{l:List Nat}(h:IsL M natV u l):IsL M intV64 u (l.map fun (x:Nat)=>(x:Int)):=by
 unfold IsL at h ⊢
 rw[List.map_map,List.length_map]
 exact h
end
end Go.Proofs.YtiipiciemgdaeaaGreat.Sx
namespace Go.Proofs.YtiipiciemgdaeaaGreat.Sx
open Go Go.RowKit Go.Shelf
set_option linter.unusedVariables false
set_option linter.unusedSimpArgs false
set_option maxRecDepth 100000
attribute [local go_sem] Oper.semAt_some
theorem CallS.value{P:Program}{f:FuncId}{args:List Value}{v:Value}{M:Mem}{w:World}(h:∀K:AV→Hp→Mem→Prop,K (.ext v) [] M→CallS P f (args.map .ext) [] M [] K)(hM:Sub M w):Calls P f args.toArray w fun e w'=>e=.returned v∧Below w.heap.size w w':=by
 refine (h (fun r H' M'=>r=.ext v∧H'=[]∧M'=M) ⟨rfl,rfl,rfl⟩ (fun _=>none) w args ⟨fun k T cs b hk=>by simp[lkH]at hk,fun k T cs hk=>by simp[lkH]at hk,fun k k' b b' hk=>by simp[lkH]at hk,hM⟩ (isL_ext args)).mono fun e w' hall=>?_
 obtain ⟨r,v',H',M'',ρ',e1,⟨rfl,_,_⟩,hL⟩:=hall
 have hr:r=v:=hL.is
 subst hr
 exact ⟨e1,⟨hL.os,hL.tape,hL.output,hL.size,fun i hi=>hL.block i hi fun j y hj=>by simp[lkH]at hj⟩⟩
def hypP(most s:Nat):Bool:=decide (1≤s)&&decide (ones s 8≤most)
def hypTo(most k:Nat):List Nat:=(List.range k).filter (hypP most)
def hyps(n most:Nat):List Nat:=hypTo most (2^n)
theorem hypTo_hit{most k:Nat}(h:hypP most k=true):hypTo most (k+1)=hypTo most k++[k]:=by simp[hypTo,List.range_succ,h]
theorem hypTo_miss{most k:Nat}(h:hypP most k=false):hypTo most (k+1)=hypTo most k:=by simp[hypTo,List.range_succ,h]
theorem hypTo_len(most k:Nat):(hypTo most k).length≤k:=by
 have:=List.length_filter_le (hypP most) (List.range k)
 rw[List.length_range]at this;exact this
theorem onesCount_calls(x:Nat)(hx:x<256)(w:World):Calls Tryz.prog 175 #[.int .u64 (x:Int)] w fun e w'=>e=.returned (.int .i64 ((ones x 8:Nat):Int))∧Below w.heap.size w w':=
 CallS.value (args:=[.int .u64 (x:Int)]) (M:=fun _=>none) (fun K hK=>onesCount_ok x hx hK) (fun b o h=>by cases h)
structure KpB (Bn Bm:Nat) (W W':World):Prop where
 size:W.heap.size≤W'.heap.size
 n:W'.heap[Bn]? = W.heap[Bn]?
 m:W'.heap[Bm]? = W.heap[Bm]?
theorem KpB.cB{Bn Bm:Nat}{W W':World}(h:KpB Bn Bm W W'):W'.cell? ⟨Bn,0,none⟩=W.cell? ⟨Bn,0,none⟩:=World.cell?_of_block (a:=⟨Bn,0,none⟩) h.n
theorem KpB.cM{Bn Bm:Nat}{W W':World}(h:KpB Bn Bm W W'):W'.cell? ⟨Bm,0,none⟩=W.cell? ⟨Bm,0,none⟩:=World.cell?_of_block (a:=⟨Bm,0,none⟩) h.m
theorem KpB.trans{Bn Bm:Nat}{A B C:World}(h:KpB Bn Bm A B)(k:KpB Bn Bm B C):KpB Bn Bm A C:=⟨Nat.le_trans h.size k.size,k.n.trans h.n,k.m.trans h.m⟩
theorem KpB.put{Bn Bm:Nat}(W:World)(l:Nat)(o':Obj)(h1:Bn<l)(h2:Bm<l):KpB Bn Bm W (W.putObj l o'):=
 have g:=grownBy_putObj' W l o'
 ⟨g.size,World.putObj_heap_other (by omega),World.putObj_heap_other (by omega)⟩
theorem wrap64_nat{n:Nat}(h:n<2^63):Go.RowKit.wrap64 (n:Int)=(n:Int):=by
 unfold Go.RowKit.wrap64
 omega
theorem cellB{B:Nat}{v:Value}{w w1:World}(h:Below (World.drew w).heap.size (World.drew w) w1)(hc:w.cell? ⟨B,0,none⟩=some v):w1.cell? ⟨B,0,none⟩=some v:=by
 have hlt:B<w.heap.size:=by
  obtain ⟨o,ho,_⟩:=cells_of_cell hc
  exact (Array.getElem?_eq_some_iff.1 ho).1
 have:=World.cell?_of_block (w:=World.drew w) (w':=w1) (a:=⟨B,0,none⟩) (h.block B hlt)
 rw[this];exact hc
theorem grownD{w w1:World}(h:Below (World.drew w).heap.size (World.drew w) w1):w.grownBy w1 none:=⟨h.os,h.tape,h.output,h.size,fun k hk _=>h.block k hk⟩
set_option maxHeartbeats 4000000 in
theorem sets1_in(n:Nat)(hn:1≤n)(l Bn Bm N most:Nat)(hN:N≤8)(J Jx:List Nat→World→Prop)
  (hY:∀pre x W,J pre W→pre.length<256→YieldAt Fence.wide (n-1) Tryz.prog l #[.int .i64 ((x:Nat):Int)] W fun e W'=>
   (e=.returned (.bool true)∧J (pre++[x]) W'∧KpB Bn Bm W W')∨(e=.returned (.bool false)∧Jx (pre++[x]) W'))
  (W:World) (hJ:AbidesFrom W.heap.size J) (hBn:W.cell? ⟨Bn,0,none⟩=some (.int .i64 (N:Int))) (hBm:W.cell? ⟨Bm,0,none⟩=some (.int .i64 (most:Int))) (h0:J [] W) :
  CallsIn Fence.wide n Tryz.prog 174 #[.func (.yield l) #[] #[],.pointer (some ⟨Bn,0,none⟩),.pointer (some ⟨Bm,0,none⟩)] W fun e W'=>(∃v,e=.returned v)∧
   ((∃ys,ys=hyps N most∧J ys W')∨(∃pre,True∧Jx pre W')):=by
 obtain ⟨T,hT⟩:∃T:Nat,T=2^N:=⟨_,rfl⟩
 have hT2:T≤256:=by rw[hT];exact Nat.pow_le_pow_right (n:=2) (by decide) hN
 have hT1:1≤T:=by rw[hT];exact Nat.one_le_two_pow
 have hTi:(2:Int)^N=(T:Int):=by rw[hT];simp
 have hyd:hyps N most=hypTo most T:=by rw[hT];rfl
 clear hT
 have hpw:Go.RowKit.wrap64 ((2:Int)^N)=(T:Int):=by rw[hTi];exact wrap64_nat (by omega)
 have hwT:Go.RowKit.wrap64 (T:Int)=(T:Int):=wrap64_nat (by omega)
 have hws:∀s:Nat,s≤T→Go.RowKit.wrap64 ((s:Int)+1)=((s+1:Nat):Int):=fun s h=>wrap64_nat (n:=s+1) (by omega)
 have hsl:∀s:Nat,s<T→decide ((s:Int)<Go.RowKit.wrap64 ((2:Int)^N))=true:=fun s h=>by rw[hpw];simp only[decide_eq_true_eq];omega
 have hsf:∀s:Nat,s=T→decide ((s:Int)<Go.RowKit.wrap64 ((2:Int)^N))=false:=fun s h=>by rw[hpw];simp only[decide_eq_false_iff_not];omega
 have hsm:∀s:Nat,s<T→s<256:=fun s h=>by omega
 have hlen:∀s:Nat,s<T→(hypTo most s).length<256:=fun s h=>by have:=hypTo_len most s;omega
 have hwu:∀s:Nat,s<T→IntKind.u64.wrap (s:Int)=(s:Int):=fun s h=>by rw[IntKind.wrap_u64];omega
 have hph:∀s:Nat,1≤s→ones s 8≤most→hypP most s=true:=fun s h h'=>by simp[hypP,h,h']
 have hpm:∀s:Nat,¬ones s 8≤most→hypP most s=false:=fun s h=>by simp[hypP,h]
 have hms:∀s:Nat,s<T→T-(intOf (.int .i64 ((s+1:Nat):Int))).toNat<T-(intOf (.int .i64 (s:Int))).toNat:=fun s h=>by simp only[intOf,Int.toNat_natCast];omega
 have hgt:∀s:Nat,ones s 8≤most→decide (((ones s 8:Nat):Int)≤(most:Int))=true:=fun s h=>by simp;omega
 have hgf:∀s:Nat,¬ones s 8≤most→decide (((ones s 8:Nat):Int)≤(most:Int))=false:=fun s h=>by simp;omega
 clear hpw hTi hwT
 refine callsIn_of_wp Tryz.func174 rfl trivial ?_ rfl
 simp only[Tryz.ntmps174,List.size_toArray,List.length_cons,List.length_nil,Nat.reduceAdd,Nat.reduceSub,Array.replicate_succ,Array.replicate_zero,List.push_toArray,List.append_toArray,List.nil_append,List.cons_append]
 gi_wp2
 gi_loopw [4] (fun p wr=>∃s:Nat,p=.int .i64 (s:Int)∧1≤s∧s≤T∧wr.cell? ⟨Bn,0,none⟩=some (.int .i64 (N:Int))∧wr.cell? ⟨Bm,0,none⟩=some (.int .i64 (most:Int))∧J (hypTo most s) wr)
  (fun p _=>T-(intOf p).toNat)
 case atStart=>
  exact ⟨1,rfl,Nat.le_refl 1,hT1,hBn,hBm,h0⟩
 case round=>
  obtain ⟨s,rfl,h1,h2,hwB,hwM,hJs⟩:=hrel
  have hws:=hws s h2
  by_cases hlt:s<T
  ·have hlt2:=hsl s hlt
   gi_wp2
   by_cases hc:ones s 8≤most
   ·have hg:=hgt s hc
    refine wpIn_region_any (by kernel_rfl) ?_
    change wpAnyIn _ _ _ _ _ _ _ _ _ (World.drew _)
    refine wpAnyIn_take (i:=0) (v:=?_) rfl rfl (by kernel_rfl) (by kernel_rfl) (by kernel_rfl) (fun _ _ _ h=>h) ⟨Or.inl ⟨by rfl,?_⟩,fun _=>rfl⟩ ?_
    rotate_left
    ·intro w;go_simp;with_reducible rfl
    refine wpAnyIn_take (i:=1) (v:=?_) rfl rfl (by kernel_rfl) (by kernel_rfl) (by kernel_rfl) (fun _ _ _ h=>h) ⟨Or.inl ⟨by rfl,?_⟩,fun _=>rfl⟩ ?_
    rotate_left
    ·intro w;go_simp;with_reducible rfl
    refine wpAnyIn_ready (rs:=[2,3]) (by kernel_rfl) (by simp) ?_
    refine AllReadyIn.cons rfl (fun K hK=>?_) (AllReadyIn.cons rfl (fun K hK=>?_) AllReadyIn.nil)
    ·go_simp
     refine ⟨trivial,?_⟩
     refine (callsIn_wide.2 (onesCount_calls s (hsm s hlt) _)).mono ?_
     rintro e w1 ⟨rfl,hB1⟩
     dsimp only
     refine hK _ _ ?_
     clear hK K
     have cM1:=cellB hB1 hwM
     have cB1:=cellB hB1 hwB
     have hJ1:J (hypTo most s) w1:=hJ _ wr w1 none hJs (grownD hB1) (fun r e=>by cases e)
     have hn1:True:=trivial
     refine wpAnyIn_ready (rs:=[3]) (by kernel_rfl) (by simp) ?_
     refine AllReadyIn.cons rfl (fun K hK=>?_) AllReadyIn.nil
     go_simp
     refine hK _ _ ?_
     clear hK K
     refine wpAnyIn_ready (rs:=[4]) (by kernel_rfl) (by simp) ?_
     refine AllReadyIn.cons rfl (fun K hK=>?_) AllReadyIn.nil
     go_simp
     refine hK _ _ ?_
     clear hK K
     refine wpAnyIn_ready (rs:=[5]) (by kernel_rfl) (by simp) ?_
     refine AllReadyIn.cons rfl (fun K hK=>?_) AllReadyIn.nil
     go_simp
     refine hK _ _ ?_
     clear hK K
     refine wpAnyIn_take (i:=6) (v:=?_) rfl rfl (by kernel_rfl) (by kernel_rfl) (by kernel_rfl) (fun _ _ _ h=>h) ⟨Or.inl ⟨by rfl,?_⟩,fun _=>rfl⟩ ?_
     rotate_left
     ·intro w;go_simp;with_reducible rfl
     refine wpAnyIn_ready (rs:=[7]) (by kernel_rfl) (by simp) ?_
     refine AllReadyIn.cons rfl (fun K hK=>?_) AllReadyIn.nil
     go_simp
     refine hK _ _ ?_
     clear hK K
     obtain ⟨fn,tmps,assign,body,hy,hR⟩:=hY _ s w1 hJ1 (hlen s hlt)
     refine wpAnyIn_ready (rs:=[8]) (by kernel_rfl) (by simp) ?_
     refine AllReadyIn.cons rfl (fun K hK=>?_) AllReadyIn.nil
     go_simp
     refine hR.mono ?_
     rintro e W3 (⟨rfl,hJ3,hk3⟩|⟨rfl,hJx3⟩)
     ·dsimp only
      refine hK _ _ ?_
      clear hK K
      refine wpAnyIn_ready (rs:=[9]) (by kernel_rfl) (by simp) ?_
      refine AllReadyIn.cons rfl (fun K hK=>?_) AllReadyIn.nil
      go_simp
      refine hK _ _ ?_
      clear hK K
      refine wpAnyIn_ready (rs:=[10]) (by kernel_rfl) (by simp) ?_
      refine AllReadyIn.cons rfl (fun K hK=>?_) AllReadyIn.nil
      go_simp
      refine hK _ _ ?_
      clear hK K
      refine wpAnyIn_done (by kernel_rfl) ?_ _
      have cB3:=hk3.cB.trans cB1
      have cM3:=hk3.cM.trans cM1
      rw[←hypTo_hit (hph s h1 hc)]at hJ3
      have m1:=hms s hlt
      clear hsl hsf hsm hlen hgt hgf hph hpm hms hwu hY hJ hyd
      gi_wp2
      exact ⟨⟨s+1,rfl,Nat.le_succ_of_le h1,hlt,cB3,cM3,hJ3⟩,m1⟩
     ·dsimp only
      refine hK _ _ ?_
      clear hK K
      refine wpAnyIn_ready (rs:=[9]) (by kernel_rfl) (by simp) ?_
      refine AllReadyIn.cons rfl (fun K hK=>?_) AllReadyIn.nil
      go_simp
      refine hK _ _ ?_
      clear hK K
      refine wpAnyIn_ready (rs:=[10]) (by kernel_rfl) (by simp) ?_
      refine AllReadyIn.cons rfl (fun K hK=>?_) AllReadyIn.nil
      go_simp
      refine hK _ _ ?_
      clear hK K
      refine wpAnyIn_done (by kernel_rfl) ?_ _
      clear hsl hsf hsm hlen hgt hgf hph hpm hms hwu hY hJ hyd
      gi_wp2
      refine bodyPost_ret (results_none rfl _ _ _) rfl ?_
      exact ⟨⟨_,rfl⟩,.inr ⟨_,trivial,hJx3⟩⟩
    ·go_simp
     refine hK _ _ ?_
     clear hK K
     refine wpAnyIn_ready (rs:=[2]) (by kernel_rfl) (by simp) ?_
     refine AllReadyIn.cons rfl (fun K hK=>?_) AllReadyIn.nil
     go_simp
     refine ⟨trivial,?_⟩
     refine (callsIn_wide.2 (onesCount_calls s (hsm s hlt) _)).mono ?_
     rintro e w1 ⟨rfl,hB1⟩
     dsimp only
     refine hK _ _ ?_
     clear hK K
     have cM1:=cellB hB1 hwM
     have cB1:=cellB hB1 hwB
     have hJ1:J (hypTo most s) w1:=hJ _ wr w1 none hJs (grownD hB1) (fun r e=>by cases e)
     have hn1:True:=trivial
     refine wpAnyIn_ready (rs:=[4]) (by kernel_rfl) (by simp) ?_
     refine AllReadyIn.cons rfl (fun K hK=>?_) AllReadyIn.nil
     go_simp
     refine hK _ _ ?_
     clear hK K
     refine wpAnyIn_ready (rs:=[5]) (by kernel_rfl) (by simp) ?_
     refine AllReadyIn.cons rfl (fun K hK=>?_) AllReadyIn.nil
     go_simp
     refine hK _ _ ?_
     clear hK K
     refine wpAnyIn_take (i:=6) (v:=?_) rfl rfl (by kernel_rfl) (by kernel_rfl) (by kernel_rfl) (fun _ _ _ h=>h) ⟨Or.inl ⟨by rfl,?_⟩,fun _=>rfl⟩ ?_
     rotate_left
     ·intro w;go_simp;with_reducible rfl
     refine wpAnyIn_ready (rs:=[7]) (by kernel_rfl) (by simp) ?_
     refine AllReadyIn.cons rfl (fun K hK=>?_) AllReadyIn.nil
     go_simp
     refine hK _ _ ?_
     clear hK K
     obtain ⟨fn,tmps,assign,body,hy,hR⟩:=hY _ s w1 hJ1 (hlen s hlt)
     refine wpAnyIn_ready (rs:=[8]) (by kernel_rfl) (by simp) ?_
     refine AllReadyIn.cons rfl (fun K hK=>?_) AllReadyIn.nil
     go_simp
     refine hR.mono ?_
     rintro e W3 (⟨rfl,hJ3,hk3⟩|⟨rfl,hJx3⟩)
     ·dsimp only
      refine hK _ _ ?_
      clear hK K
      refine wpAnyIn_ready (rs:=[9]) (by kernel_rfl) (by simp) ?_
      refine AllReadyIn.cons rfl (fun K hK=>?_) AllReadyIn.nil
      go_simp
      refine hK _ _ ?_
      clear hK K
      refine wpAnyIn_ready (rs:=[10]) (by kernel_rfl) (by simp) ?_
      refine AllReadyIn.cons rfl (fun K hK=>?_) AllReadyIn.nil
      go_simp
      refine hK _ _ ?_
      clear hK K
      refine wpAnyIn_done (by kernel_rfl) ?_ _
      have cB3:=hk3.cB.trans cB1
      have cM3:=hk3.cM.trans cM1
      rw[←hypTo_hit (hph s h1 hc)]at hJ3
      have m1:=hms s hlt
      clear hsl hsf hsm hlen hgt hgf hph hpm hms hwu hY hJ hyd
      gi_wp2
      exact ⟨⟨s+1,rfl,Nat.le_succ_of_le h1,hlt,cB3,cM3,hJ3⟩,m1⟩
     ·dsimp only
      refine hK _ _ ?_
      clear hK K
      refine wpAnyIn_ready (rs:=[9]) (by kernel_rfl) (by simp) ?_
      refine AllReadyIn.cons rfl (fun K hK=>?_) AllReadyIn.nil
      go_simp
      refine hK _ _ ?_
      clear hK K
      refine wpAnyIn_ready (rs:=[10]) (by kernel_rfl) (by simp) ?_
      refine AllReadyIn.cons rfl (fun K hK=>?_) AllReadyIn.nil
      go_simp
      refine hK _ _ ?_
      clear hK K
      refine wpAnyIn_done (by kernel_rfl) ?_ _
      clear hsl hsf hsm hlen hgt hgf hph hpm hms hwu hY hJ hyd
      gi_wp2
      refine bodyPost_ret (results_none rfl _ _ _) rfl ?_
      exact ⟨⟨_,rfl⟩,.inr ⟨_,trivial,hJx3⟩⟩
   ·have hg:=hgf s hc
    refine wpIn_region_any (by kernel_rfl) ?_
    change wpAnyIn _ _ _ _ _ _ _ _ _ (World.drew _)
    refine wpAnyIn_take (i:=0) (v:=?_) rfl rfl (by kernel_rfl) (by kernel_rfl) (by kernel_rfl) (fun _ _ _ h=>h) ⟨Or.inl ⟨by rfl,?_⟩,fun _=>rfl⟩ ?_
    rotate_left
    ·intro w;go_simp;with_reducible rfl
    refine wpAnyIn_take (i:=1) (v:=?_) rfl rfl (by kernel_rfl) (by kernel_rfl) (by kernel_rfl) (fun _ _ _ h=>h) ⟨Or.inl ⟨by rfl,?_⟩,fun _=>rfl⟩ ?_
    rotate_left
    ·intro w;go_simp;with_reducible rfl
    refine wpAnyIn_ready (rs:=[2,3]) (by kernel_rfl) (by simp) ?_
    refine AllReadyIn.cons rfl (fun K hK=>?_) (AllReadyIn.cons rfl (fun K hK=>?_) AllReadyIn.nil)
    ·go_simp
     refine ⟨trivial,?_⟩
     refine (callsIn_wide.2 (onesCount_calls s (hsm s hlt) _)).mono ?_
     rintro e w1 ⟨rfl,hB1⟩
     dsimp only
     refine hK _ _ ?_
     clear hK K
     have cM1:=cellB hB1 hwM
     have cB1:=cellB hB1 hwB
     have hJ1:J (hypTo most s) w1:=hJ _ wr w1 none hJs (grownD hB1) (fun r e=>by cases e)
     have hn1:True:=trivial
     refine wpAnyIn_ready (rs:=[3]) (by kernel_rfl) (by simp) ?_
     refine AllReadyIn.cons rfl (fun K hK=>?_) AllReadyIn.nil
     go_simp
     refine hK _ _ ?_
     clear hK K
     refine wpAnyIn_ready (rs:=[4]) (by kernel_rfl) (by simp) ?_
     refine AllReadyIn.cons rfl (fun K hK=>?_) AllReadyIn.nil
     go_simp
     refine hK _ _ ?_
     clear hK K
     refine wpAnyIn_ready (rs:=[5]) (by kernel_rfl) (by simp) ?_
     refine AllReadyIn.cons rfl (fun K hK=>?_) AllReadyIn.nil
     go_simp
     refine hK _ _ ?_
     clear hK K
     refine wpAnyIn_ready (rs:=[6,7]) (by kernel_rfl) (by simp) ?_
     refine AllReadyIn.cons rfl (fun K hK=>?_) (AllReadyIn.cons rfl (fun K hK=>?_) AllReadyIn.nil)
     ·go_simp
      refine hK _ _ ?_
      clear hK K
      refine wpAnyIn_ready (rs:=[7]) (by kernel_rfl) (by simp) ?_
      refine AllReadyIn.cons rfl (fun K hK=>?_) AllReadyIn.nil
      go_simp
      refine hK _ _ ?_
      clear hK K
      refine wpAnyIn_ready (rs:=[8]) (by kernel_rfl) (by simp) ?_
      refine AllReadyIn.cons rfl (fun K hK=>?_) AllReadyIn.nil
      go_simp
      (try refine ⟨fun _ _=>trivial,?_⟩)
      refine hK _ _ ?_
      clear hK K
      refine wpAnyIn_ready (rs:=[9]) (by kernel_rfl) (by simp) ?_
      refine AllReadyIn.cons rfl (fun K hK=>?_) AllReadyIn.nil
      go_simp
      refine hK _ _ ?_
      clear hK K
      refine wpAnyIn_ready (rs:=[10]) (by kernel_rfl) (by simp) ?_
      refine AllReadyIn.cons rfl (fun K hK=>?_) AllReadyIn.nil
      go_simp
      refine hK _ _ ?_
      clear hK K
      refine wpAnyIn_done (by kernel_rfl) ?_ _
      rw[←hypTo_miss (hpm s hc)]at hJ1
      have m1:=hms s hlt
      clear hsl hsf hsm hlen hgt hgf hph hpm hms hwu hY hJ hyd
      gi_wp2
      exact ⟨⟨s+1,rfl,Nat.le_succ_of_le h1,hlt,cB1,cM1,hJ1⟩,m1⟩
     ·go_simp
      refine hK _ _ ?_
      clear hK K
      refine wpAnyIn_ready (rs:=[6]) (by kernel_rfl) (by simp) ?_
      refine AllReadyIn.cons rfl (fun K hK=>?_) AllReadyIn.nil
      go_simp
      refine hK _ _ ?_
      clear hK K
      refine wpAnyIn_ready (rs:=[8]) (by kernel_rfl) (by simp) ?_
      refine AllReadyIn.cons rfl (fun K hK=>?_) AllReadyIn.nil
      go_simp
      (try refine ⟨fun _ _=>trivial,?_⟩)
      refine hK _ _ ?_
      clear hK K
      refine wpAnyIn_ready (rs:=[9]) (by kernel_rfl) (by simp) ?_
      refine AllReadyIn.cons rfl (fun K hK=>?_) AllReadyIn.nil
      go_simp
      refine hK _ _ ?_
      clear hK K
      refine wpAnyIn_ready (rs:=[10]) (by kernel_rfl) (by simp) ?_
      refine AllReadyIn.cons rfl (fun K hK=>?_) AllReadyIn.nil
      go_simp
      refine hK _ _ ?_
      clear hK K
      refine wpAnyIn_done (by kernel_rfl) ?_ _
      rw[←hypTo_miss (hpm s hc)]at hJ1
      have m1:=hms s hlt
      clear hsl hsf hsm hlen hgt hgf hph hpm hms hwu hY hJ hyd
      gi_wp2
      exact ⟨⟨s+1,rfl,Nat.le_succ_of_le h1,hlt,cB1,cM1,hJ1⟩,m1⟩
    ·go_simp
     refine hK _ _ ?_
     clear hK K
     refine wpAnyIn_ready (rs:=[2]) (by kernel_rfl) (by simp) ?_
     refine AllReadyIn.cons rfl (fun K hK=>?_) AllReadyIn.nil
     go_simp
     refine ⟨trivial,?_⟩
     refine (callsIn_wide.2 (onesCount_calls s (hsm s hlt) _)).mono ?_
     rintro e w1 ⟨rfl,hB1⟩
     dsimp only
     refine hK _ _ ?_
     clear hK K
     have cM1:=cellB hB1 hwM
     have cB1:=cellB hB1 hwB
     have hJ1:J (hypTo most s) w1:=hJ _ wr w1 none hJs (grownD hB1) (fun r e=>by cases e)
     have hn1:True:=trivial
     refine wpAnyIn_ready (rs:=[4]) (by kernel_rfl) (by simp) ?_
     refine AllReadyIn.cons rfl (fun K hK=>?_) AllReadyIn.nil
     go_simp
     refine hK _ _ ?_
     clear hK K
     refine wpAnyIn_ready (rs:=[5]) (by kernel_rfl) (by simp) ?_
     refine AllReadyIn.cons rfl (fun K hK=>?_) AllReadyIn.nil
     go_simp
     refine hK _ _ ?_
     clear hK K
     refine wpAnyIn_ready (rs:=[6,7]) (by kernel_rfl) (by simp) ?_
     refine AllReadyIn.cons rfl (fun K hK=>?_) (AllReadyIn.cons rfl (fun K hK=>?_) AllReadyIn.nil)
     ·go_simp
      refine hK _ _ ?_
      clear hK K
      refine wpAnyIn_ready (rs:=[7]) (by kernel_rfl) (by simp) ?_
      refine AllReadyIn.cons rfl (fun K hK=>?_) AllReadyIn.nil
      go_simp
      refine hK _ _ ?_
      clear hK K
      refine wpAnyIn_ready (rs:=[8]) (by kernel_rfl) (by simp) ?_
      refine AllReadyIn.cons rfl (fun K hK=>?_) AllReadyIn.nil
      go_simp
      (try refine ⟨fun _ _=>trivial,?_⟩)
      refine hK _ _ ?_
      clear hK K
      refine wpAnyIn_ready (rs:=[9]) (by kernel_rfl) (by simp) ?_
      refine AllReadyIn.cons rfl (fun K hK=>?_) AllReadyIn.nil
      go_simp
      refine hK _ _ ?_
      clear hK K
      refine wpAnyIn_ready (rs:=[10]) (by kernel_rfl) (by simp) ?_
      refine AllReadyIn.cons rfl (fun K hK=>?_) AllReadyIn.nil
      go_simp
      refine hK _ _ ?_
      clear hK K
      refine wpAnyIn_done (by kernel_rfl) ?_ _
      rw[←hypTo_miss (hpm s hc)]at hJ1
      have m1:=hms s hlt
      clear hsl hsf hsm hlen hgt hgf hph hpm hms hwu hY hJ hyd
      gi_wp2
      exact ⟨⟨s+1,rfl,Nat.le_succ_of_le h1,hlt,cB1,cM1,hJ1⟩,m1⟩
     ·go_simp
      refine hK _ _ ?_
      clear hK K
      refine wpAnyIn_ready (rs:=[6]) (by kernel_rfl) (by simp) ?_
      refine AllReadyIn.cons rfl (fun K hK=>?_) AllReadyIn.nil
      go_simp
      refine hK _ _ ?_
      clear hK K
      refine wpAnyIn_ready (rs:=[8]) (by kernel_rfl) (by simp) ?_
      refine AllReadyIn.cons rfl (fun K hK=>?_) AllReadyIn.nil
      go_simp
      (try refine ⟨fun _ _=>trivial,?_⟩)
      refine hK _ _ ?_
      clear hK K
      refine wpAnyIn_ready (rs:=[9]) (by kernel_rfl) (by simp) ?_
      refine AllReadyIn.cons rfl (fun K hK=>?_) AllReadyIn.nil
      go_simp
      refine hK _ _ ?_
      clear hK K
      refine wpAnyIn_ready (rs:=[10]) (by kernel_rfl) (by simp) ?_
      refine AllReadyIn.cons rfl (fun K hK=>?_) AllReadyIn.nil
      go_simp
      refine hK _ _ ?_
      clear hK K
      refine wpAnyIn_done (by kernel_rfl) ?_ _
      rw[←hypTo_miss (hpm s hc)]at hJ1
      have m1:=hms s hlt
      clear hsl hsf hsm hlen hgt hgf hph hpm hms hwu hY hJ hyd
      gi_wp2
      exact ⟨⟨s+1,rfl,Nat.le_succ_of_le h1,hlt,cB1,cM1,hJ1⟩,m1⟩
  ·have elt:s=T:=Nat.le_antisymm h2 (Nat.le_of_not_lt hlt)
   have hdf:=hsf s elt
   subst elt
   clear hsl hsf hsm hlen hgt hgf hph hpm hms hwu hY hJ
   gi_wp2
   go_end0
   exact ⟨⟨_,rfl⟩,.inl ⟨_,hyd.symm,hJs⟩⟩
attribute [local go_sem] Oper.semAt_some
set_option maxHeartbeats 2000000 in
theorem sets_in(n:Nat)(N most:Int)(w:World):CallsIn Fence.wide n Tryz.prog 149 #[.int .i64 N,.int .i64 most] w fun e w'=>
  e=.returned (.func (.func 174) #[] #[.pointer (some ⟨w.heap.size,0,none⟩),.pointer (some ⟨w.heap.size+1,0,none⟩)])∧w'=(w.alloc (.cells #[.int .i64 N] 3)).alloc (.cells #[.int .i64 most] 3):=by
 refine callsIn_of_wp Tryz.func149 rfl trivial ?_ rfl
 simp only[Tryz.ntmps149,List.size_toArray,List.length_cons,List.length_nil,Nat.reduceAdd,Nat.reduceSub,Array.replicate_succ,Array.replicate_zero,List.push_toArray,List.append_toArray,List.nil_append,List.cons_append]
 gi_wp2
 go_ret
 exact ⟨rfl,rfl⟩
theorem check_calls{M:Mem}{u:Value}{l:List Int}(hu:IsL M intV64 u l)(hl:chkL l=true)(w:World)(hM:Sub M w):Calls Tryz.prog 115 #[.agg #[u]] w fun e w'=>e=.returned (.bool true)∧Below w.heap.size w w':=
 CallS.value (args:=[.agg #[u]]) (M:=M) (fun K hK=>pchk_ok u l hu (by have:=chk_len hl;omega) (by rw[hl];exact hK)) hM
theorem Sub.alloc{M:Mem}{w:World}(h:Sub M w)(o:Obj):Sub M (w.alloc o):=fun b p hb=>by
 have h1:=h b p hb
 exact ((Below.refl w.heap.size w).alloc (Nat.le_refl _) o).block b (Array.getElem?_eq_some_iff.1 h1).1▸h1
theorem cellNew{w w1:World}{v:Value}{t:TypeId}(h:Below (w.alloc (.cells #[v] t)).heap.size (w.alloc (.cells #[v] t)) w1):w1.cell? ⟨w.heap.size,0,none⟩=some v:=
 (h.cell (p:=⟨w.heap.size,0,none⟩) (by simp)).trans (Boxed.new w t v).cell
theorem cellOld{w:World}{B:Nat}{v:Value}(h:w.cell? ⟨B,0,none⟩=some v)(o:Obj):(w.alloc o).cell? ⟨B,0,none⟩=some v:=by
 obtain ⟨p,h1,_⟩:=cells_of_cell h
 rw[World.cell?_of_block (a:=⟨B,0,none⟩) (((Below.refl w.heap.size w).alloc (Nat.le_refl _) o).block B (Array.getElem?_eq_some_iff.1 h1).1)];exact h
theorem ownsRow_base{W W':World}{n m:Nat}{e e':TypeId}{z z' k k':Nat}{v:Value}{xs xs':List Value}(h:W.ownsRow n e z v k xs)(h':W'.ownsRow m e' z' v k' xs'):W.ownsRow m e z v k xs:=by
 refine ⟨h.1,?_⟩
 rcases h.2 with ⟨rfl,h0⟩|⟨g,cap,cur,rfl,_,rest⟩
 ·exact .inl ⟨rfl,h0⟩
 ·rcases h'.2 with ⟨h1,_⟩|⟨g2,cap2,cur2,e2,hb,_⟩
  ·cases h1
  ·cases e2
   exact .inr ⟨g,cap,cur,rfl,hb,rest⟩
theorem ownsRow_weak{W:World}{n m:Nat}{e:TypeId}{z k:Nat}{v:Value}{xs:List Value}(h:W.ownsRow n e z v k xs)(hm:m≤n):W.ownsRow m e z v k xs:=by
 refine ⟨h.1,?_⟩
 rcases h.2 with h0|⟨g,cap,cur,e1,hb,rest⟩
 ·exact .inl h0
 ·exact .inr ⟨g,cap,cur,e1,Nat.le_trans hm hb,rest⟩
theorem KpB.app{W w4:World}{base B Bn Bm:Nat}{e:TypeId}{v v':Value}{k:Nat}{xs:List Value}{tmp:Obj}(hrow:W.ownsRow base e 1 v k xs)(hg:(W.alloc tmp).grownBy w4 v.ownBlock)(h1:Bn<base)(h2:Bm<base)(hb:base≤W.heap.size)(n1:Bn≠B)(n2:Bm≠B):KpB Bn Bm W (w4.setCell ⟨B,0,none⟩ v'):=by
 have hsz:W.heap.size+1≤w4.heap.size:=by have:=hg.size;simpa using this
 have hs:=grownBy_setCell' w4 B v'
 have key:∀x,x<base→x≠B→(w4.setCell ⟨B,0,none⟩ v').heap[x]? = W.heap[x]?:=fun x hx hne=>by
  have a1:=hs.block x (by omega) (fun e=>hne (by cases e;rfl))
  have a2:=hg.block x (by simp;omega) (fun e=>by
   rcases hrow.2 with ⟨rfl,_⟩|⟨g,cap,cur,rfl,hbg,_⟩
   ·simp[Value.ownBlock]at e
   ·simp[Value.ownBlock]at e;omega)
  have a3:=((Below.refl W.heap.size W).alloc (Nat.le_refl _) tmp).block x (by omega)
  rw[a1,a2,a3]
 exact ⟨by have:=hs.size;omega,key Bn h1 n1,key Bm h2 n2⟩
theorem infoInt:(Tryz.prog.info? 3).map (fun i=>(i.zero,i.size,i.bytes))=some (some (.int .i64 0),1,8):=by kernel_rfl
theorem sets_stops(n:Nat)(hn:1≤n)(Bn Bm N most:Nat)(hN:N≤8)(w:World)(hBn:w.cell? ⟨Bn,0,none⟩=some (.int .i64 (N:Int)))(hBm:w.cell? ⟨Bm,0,none⟩=some (.int .i64 (most:Int))) :
  SeqStopsK Fence.wide n Tryz.prog 174 #[.pointer (some ⟨Bn,0,none⟩),.pointer (some ⟨Bm,0,none⟩)] (fun x:Nat=>#[Value.int .i64 (x:Int)]) (KpB Bn Bm) (fun ys=>ys=hyps N most) (fun _=>True) 256 w:=fun l J Jx W hW hJ _ hY h0=>
 have cell:∀B v,w.cell? ⟨B,0,none⟩=some v→W.cell? ⟨B,0,none⟩=some v:=fun B v h=>by
  obtain ⟨o,ho,_⟩:=cells_of_cell h
  rw[World.cell?_of_block (a:=⟨B,0,none⟩) (hW.block B (Array.getElem?_eq_some_iff.1 ho).1)];exact h
 sets1_in n hn l Bn Bm N most hN J Jx hY W hJ (cell _ _ hBn) (cell _ _ hBm) h0
set_option maxHeartbeats 4000000 in
theorem Sets_in(n:Nat)(hn:3≤n){M:Mem}{u:Value}{l:List Int}(hu:IsL M intV64 u l)(hl:chkL l=true)(most:Nat)(hm1:1≤most)(hm2:most≤2)(w:World)(hM:Sub M w) :
  CallsIn Fence.wide n Tryz.prog 102 #[.agg #[u],.int .i64 (most:Int)] w fun e W'=>∃v,e=.returned (.tuple #[v,.int .i64 0])∧W'.ownsRow w.heap.size 3 1 v (hyps l.length most).length ((hyps l.length most).map natV)∧Below w.heap.size w W':=by
 have h1:1≤n:=by omega
 have hlen:=chk_len hl
 obtain ⟨b,off,c,rfl,hc⟩:∃b off c,u=.slice (some ⟨b,off,none⟩) l.length c∧l.length≤c:=by
  rcases SlM.cases hu with ⟨h0,_⟩|⟨b,off,c,h2,h3,_⟩
  ·omega
  ·exact ⟨b,off,c,h2,h3⟩
 obtain ⟨i0,hi,hz0,hz1,hz2⟩:=info_parts infoInt
 have g1:decide ((most:Int)<1)=false:=by simp;omega
 have g2:decide (2<(most:Int))=false:=by simp;omega
 refine callsIn_of_wp_marks Tryz.func102 rfl trivial ?_ rfl
 simp only[Tryz.ntmps102,List.size_toArray,List.length_cons,List.length_nil,Nat.reduceAdd,Nat.reduceSub,Array.replicate_succ,Array.replicate_zero,List.push_toArray,List.append_toArray,List.nil_append,List.cons_append]
 gi_wp2_with (first|(refine ⟨trivial,?_⟩;gi_at_call 115;refine (callsIn_wide.2 (check_calls hu hl _ (hM.alloc _))).mono ?_;rintro e w1 ⟨rfl,hB1⟩;have hbx:=cellOld (cellNew hB1))|(refine ⟨trivial,?_⟩;gi_at_call 149;refine (sets_in (n-1) _ _ _).mono ?_;rintro e w2 ⟨rfl,rfl⟩))
 have hs1:w.heap.size+1≤w1.heap.size:=by have:=hB1.size;simpa using this
 have bO:=((Boxed.new w1 22 (.slice none 0 0)).alloc (.cells #[.int .i64 (l.length:Int)] 3)).alloc (.cells #[.int .i64 (most:Int)] 3)
 have cN:=cellOld (Boxed.new (w1.alloc (.cells #[.slice none 0 0] 22)) 3 (.int .i64 (l.length:Int))).cell (.cells #[.int .i64 (most:Int)] 3)
 have cM:=(Boxed.new ((w1.alloc (.cells #[.slice none 0 0] 22)).alloc (.cells #[.int .i64 (l.length:Int)] 3)) 3 (.int .i64 (most:Int))).cell
 have hB0:Below w.heap.size w (((w1.alloc (.cells #[.slice none 0 0] 22)).alloc (.cells #[.int .i64 (l.length:Int)] 3)).alloc (.cells #[.int .i64 (most:Int)] 3)):=by
  have h2:Below w.heap.size w w1:=((Below.refl w.heap.size w).alloc (Nat.le_refl _) _).trans (hB1.mono (by simp))
  exact ((h2.alloc (by omega) _).alloc (by simp;omega) _).alloc (by simp;omega) _
 have hsz:(((w1.alloc (.cells #[.slice none 0 0] 22)).alloc (.cells #[.int .i64 (l.length:Int)] 3)).alloc (.cells #[.int .i64 (most:Int)] 3)).heap.size=w1.heap.size+3:=by simp
 rw[World.size_alloc]at cN
 rw[World.size_alloc,World.size_alloc]at cM
 generalize hW3:(((w1.alloc (.cells #[.slice none 0 0] 22)).alloc (.cells #[.int .i64 (l.length:Int)] 3)).alloc (.cells #[.int .i64 (most:Int)] 3))=w3 at *
 refine wpIn_rangeFunc_ownG rfl h1 (gf:=174) (lb:=#[.pointer (some ⟨w1.heap.size+1,0,none⟩),.pointer (some ⟨w1.heap.size+1+1,0,none⟩)]) rfl trivial (enters_of Tryz.func174 (by kernel_rfl) rfl)
  (sets_stops (n-1) (by omega) (w1.heap.size+1) (w1.heap.size+1+1) l.length most hlen.2 w3 cN cM) KpB.trans (fun W j o o' h _ _ _=>KpB.put W j o' (by omega) (by omega)) (Below.refl _ _) (fun _=>rfl)
  (fun pre W=>(∃v,Boxed W w1.heap.size 22 v∧W.ownsRow w3.heap.size 3 1 v pre.length (pre.map natV)∧True)∧Below w.heap.size w W∧w3.heap.size≤W.heap.size)
  (fun _ _ _=>False)
  (OwnFrom.and (Own.from (holdsRow_own w3.heap.size w1.heap.size 22 3 1 (fun pre:List Nat=>pre.length) (fun pre=>pre.map natV) (fun _ _=>True)) _) (OwnFrom.and (ownFrom_below (Nat.le_refl _) (by omega)) (fun _ _ _ _ h hg _=>Nat.le_trans h hg.size)))
  (fun _ _ _ _ _ hs _ _=>hs)
  ⟨⟨_,bO,World.ownsRow_nil _ _ _ _,trivial⟩,hB0,Nat.le_refl _⟩
  (fun x=>{tmps:=#[.agg #[.slice (some ⟨b,off,none⟩) l.length c],.int .i64 (most:Int),.pointer (some ⟨w.heap.size,0,none⟩),undef,.slice none 0 0,.int .i64 0,.pointer (some ⟨w1.heap.size,0,none⟩),.int .i64 (x:Int),.bool false,.agg #[.slice (some ⟨b,off,none⟩) l.length c],.bool true,.bool false,.bool false,.int .i64 (most:Int),.bool false,.bool false,.int .i64 (most:Int),.bool false,.bool false,.pointer (some ⟨w.heap.size,0,none⟩),.slice (some ⟨b,off,none⟩) l.length c,.int .i64 (l.length:Int),.int .i64 (most:Int),.func (.func 174) #[] #[.pointer (some ⟨w1.heap.size+1,0,none⟩),.pointer (some ⟨w1.heap.size+1+1,0,none⟩)],.int .i64 (x:Int),undef,undef,undef,undef,undef],defers:=[]}) ?assign ?body ?done ?stop
 case assign=>
  intro l x W K hK
  gi_wp2
  exact hK
 case body=>
  rintro l2 pre x W ⟨⟨v,hv,hrow,_⟩,hB,hsW⟩ hlt
  have hc:=hv.cell
  gi_wp2_with (gi_at_builtin;refine wpListIn_append_own _ rfl _ _ 22 rfl w3.heap.size 3 i0 (.int .i64 0) 1 8 Tryz.underlying22 hi hz0 hz1 hz2 rfl (by decide) _ _ _ rfl (hrow.alloc _) ⟨W.heap.size,0,none⟩ 1 1 [.int .i64 (x:Int)] rfl rfl (cell_one_new _ _ _) (by simp[Value.oneCell']) (by first|omega|(unfold maxLen;omega)) (by first|omega|(unfold maxLen;omega)) (by simp;omega) ?_;intro v' w4 hown' hgrow _;obtain ⟨g',cap',rfl⟩:=ownsRow_succ hown';obtain ⟨hv1,hv2,hr2,hk2,hb2⟩:=hv.appended (n₀:=w.heap.size) (by decide) (ownsRow_weak hrow (by omega)) hB.size (by omega) (ownsRow_weak hown' (by omega)) hgrow;have hc1:=hv1.cell;have hf1:=hv1.frozen)
  refine ⟨hk2.from _,KpB.app hrow hgrow (by omega) (by omega) hsW (by omega) (by omega),⟨_,hv2,?_,trivial⟩,hB.trans hb2,Nat.le_trans hsW (KpB.app (Bn:=w1.heap.size+1) (Bm:=w1.heap.size+1) hrow hgrow (by omega) (by omega) hsW (by omega) (by omega)).size⟩
  have hr3:=ownsRow_base hr2 hown'
  simpa [natV] using hr3
 case done=>
  rintro D ys W hD rfl ⟨⟨v,hv,hrow,_⟩,hB,_⟩ hK
  have hc:=hv.cell
  gi_wp2
  refine ⟨by simp,.inl ⟨_,_,rfl,run_takeDeferred hK,?_⟩⟩
  exact ⟨_,results_tmp2 rfl _ _ _,v,rfl,ownsRow_putObj (ownsRow_weak hrow (by omega)) _ hK rfl,hB.trans (belowK_b (w:=w) (Nat.le_refl _) W D _ _ (by omega) hK rfl rfl)⟩
 case stop=>
  rintro D c pre W _ _ h _
  exact h.elim
theorem SetsP_ok{M:Mem}{K:AV→Hp→Mem→Prop}{u:Value}{l:List Int}(hu:IsL M intV64 u l)(hl:chkL l=true)(most:Nat)(hm1:1≤most)(hm2:most≤2)
  (hK:∀v M',Mem.le M M'→IsL M' natV v (hyps l.length most)→FreshS M v→K (.ext (.tuple #[v,.int .i64 0])) [] M'):CallS Tryz.prog 102 [.ext (rngV u),.ext (.int .i64 (most:Int))] [] M [] K:=by
 intro ρ w us hh he
 obtain ⟨x,r,rfl,h1,y,r2,rfl,h2,h3⟩:=he
 have h1:x=rngV u:=h1
 have h2:y=.int .i64 (most:Int):=h2
 have h3:r2=[]:=h3
 subst h1 h2 h3
 refine (callsIn_wide.1 (Sets_in 3 (by omega) hu hl most hm1 hm2 w hh.sub)).mono fun e w' hall=>?_
 obtain ⟨v,e1,hrow,hB⟩:=hall
 have base:∀(M':Mem),Sub M' w'→Mem.le M M'→(∀b,M' b≠none→M b≠none∨w.heap.size≤b)→IsL M' natV v (hyps l.length most)→FreshS M v→
   ∃u v' H' M'' ρ',e=.returned u∧K v' H' M''∧Left [] [] M ρ ρ' w u v' H' M'' w':=fun M' hs hle hmem hi hf=>
  ⟨_,.ext (.tuple #[v,.int .i64 0]),[],M',ρ,e1,hK v M' hle hi hf,{is:=rfl,heap:=⟨fun k T cs b hk=>by simp[lkH]at hk,fun k T cs hk=>by simp[lkH]at hk,fun k k' b b' hk=>by simp[lkH]at hk,hs⟩,keep:=fun k hk=>by simp[lkH]at hk,same:=fun k _ _=>rfl,ment:=fun k _=>⟨by simp[AV.ment],fun j T cs hj=>by simp[lkH]at hj⟩,fresh:=fun k b hk=>by simp[lkH]at hk,os:=hB.os,tape:=hB.tape,output:=hB.output,size:=hB.size,block:=fun b hb _=>hB.block b hb,le:=hle,mem:=hmem}⟩
 have hsub:Sub M w':=fun b o hb=>by
  have:=hh.sub b o hb
  rw[hB.block b (Array.getElem?_eq_some_iff.1 this).1];exact this
 rcases hrow with ⟨hxl,⟨rfl,h0⟩|⟨g,cap,cur,rfl,hg,hcell,hn,hcap,hcs,hcx⟩⟩
 ·refine base M hsub (Mem.le.refl _) (fun b hb=>.inl hb) ?_ (freshS_nil _ _)
  have:hyps l.length most=[]:=List.eq_nil_of_length_eq_zero h0
  rw[this];exact isL_nil _ _ _
 ·have hMg:M g=none:=by
   cases e:M g with
   | none=>rfl
   | some o=>have:=(Array.getElem?_eq_some_iff.1 (hh.sub g o e)).1;omega
  refine base (Mem.set M g (.cells cur 3 (0,0))) (fun b o hb=>?_) (Mem.le_set hMg) (fun b hb=>?_) ?_ (.inr fun b off n c e=>by cases e;exact hMg)
  ·unfold Mem.set at hb
   split at hb
   ·rename_i e;cases hb;rw[e];exact hcell
   ·exact hsub b o hb
  ·unfold Mem.set at hb
   split at hb
   ·rename_i e;subst e;exact .inr hg
   ·exact .inl hb
  ·refine ⟨rfl,rfl,hn,by simp,?_⟩
   simp only[rowS]
   refine rowM_of (by simp) fun i v hi=>?_
   have hi2:i<(hyps l.length most).length*1:=by have:=(List.getElem?_eq_some_iff.1 hi).1;simpa using this
   rw[←hcx,List.getElem?_take_of_lt hi2]at hi
   simp only[cellM,Mem.set,if_true,Nat.zero_add]
   simpa using hi
end Go.Proofs.YtiipiciemgdaeaaGreat.Sx
namespace Go.Proofs.YtiipiciemgdaeaaGreat.Sx
open Go Go.RowKit
set_option linter.unusedVariables false
set_option linter.unusedSimpArgs false
set_option maxRecDepth 100000
set_option maxHeartbeats 8000000
attribute [local congr] fin_congr finG_congr stepG_congr step1_congr runOps_congr brv_congr obl_congr condK_congr LoopK_congr seqK_congr CutK_congr vc_congr DrawK_congr regK_congr CallK_congr AskK_congr newK_congr retC_congr ret1_congr retK_congr outV_congr closeK_congr genR_congr appR_congr finD_congr finGD_congr stepGD_congr stepD_congr CallK0_congr runD_congr okR_congr CallS_congr vcX_congr
section
variable {M:Mem}{K:AV→Hp→Mem→Prop}
def setsE(l:List Int)(most:Int):Int:=if chkL l=true then (if decide (1≤most∧most≤2)=true then 0 else 3) else 1
def setsL(l:List Int)(most:Int):List Nat:=if setsE l most=0 then hyps l.length most.toNat else []
theorem Sets_ok(u:Value)(l:List Int)(most:Int)(hu:IsL M intV64 u l)(hb:l.length<1000000000)
  (hK:∀v M',Mem.le M M'→IsL M' natV v (setsL l most)→FreshS M v→K (.ext (.tuple #[v,.int .i64 (setsE l most)])) [] M'):CallS Tryz.prog 102 [.ext (rngV u),.ext (.int .i64 most)] [] M [] K:=by
 cases hc:chkL l
 ·have e1:setsE l most=1:=by simp[setsE,hc]
  have e2:setsL l most=[]:=by simp[setsL,e1]
  rw[e1,e2]at hK
  have hK:=hK _ M (Mem.le.refl _) (isL_nil _ _ 0) (freshS_nil _ _)
  refine inlS (cs:=[]) Tryz.mixed Tryz.func102 rfl (by kernel_rfl) 0 rfl rfl ?_
  simp only[Tryz.f102,rngV]
  (replace hb0:=true_and True);have hf:=A2 hu.one hc;refine sV ?_;(repeat' ((first|((with_reducible first|refine brv_mk ?_ ?_|refine gsplitD ?_ ?_|refine gsplitG ?_ ?_)<;>intro h<;>(try simp only[Bool.not_eq_true',Bool.not_eq_false']at h)<;>replace hb0:=h)|((with_reducible refine yN ?_);refine kS 115 (pchk_ok u l hu hb ?_))|refine oB ?_|fail)<;>refine sV ?_<;>try with_reducible exact tT))<;>try clear hf
  exact hK
 ·cases hm:decide (1≤most∧most≤2)
  ·have e1:setsE l most=3:=by simp[setsE,hc,hm]
   have e2:setsL l most=[]:=by simp[setsL,e1]
   rw[e1,e2]at hK
   have hK:=hK _ M (Mem.le.refl _) (isL_nil _ _ 0) (freshS_nil _ _)
   have g:(decide (most<1) || decide (2<most))=true:=by
    simp only[decide_eq_false_iff_not]at hm
    simp only[Bool.or_eq_true,decide_eq_true_eq];omega
   refine inlS (cs:=[]) Tryz.mixed Tryz.func102 rfl (by kernel_rfl) 0 rfl rfl ?_
   simp only[Tryz.f102,rngV]
   (replace hb0:=true_and True);have hf:=A3 hu.one hc g;refine sV ?_;(repeat' ((first|((with_reducible first|refine brv_mk ?_ ?_|refine gsplitD ?_ ?_|refine gsplitG ?_ ?_)<;>intro h<;>(try simp only[Bool.not_eq_true',Bool.not_eq_false']at h)<;>replace hb0:=h)|((with_reducible refine yN ?_);refine kS 115 (pchk_ok u l hu hb ?_))|refine oB ?_|fail)<;>refine sV ?_<;>try with_reducible exact tT))<;>try clear hf
   all_goals exact hK
  ·simp only[decide_eq_true_eq]at hm
   obtain ⟨k,rfl⟩:=Int.eq_ofNat_of_zero_le (show 0≤most by omega)
   have e1:setsE l (k:Int)=0:=by simp only[setsE,hc,if_true];rw[if_pos (by simp;omega)]
   have e2:setsL l (k:Int)=hyps l.length k:=by simp[setsL,e1]
   rw[e1,e2]at hK
   exact SetsP_ok hu hc k (by omega) (by omega) hK
def setSt(M:Mem)(u:Value)(most m s:Nat)(L:List Nat):St:={env:=[(7,.ext (.int .i64 (s:Int))),(6,.slo 6 0 m 1),(5,.ext (.int .i64 0)),(4,.ext (.slice none 0 0)),(2,.own 2 0),(1,.ext (.int .i64 (most:Int)))],hp:=[(6,3,cE natV L),(2,27,[.ext u])],M:=M,kb:=0,fx:=[]}
theorem SetsR_ok(u:Value)(l:List Int)(most:Int)(hu:IsL M intV64 u l)(hb:l.length<1000000000)
  (hK:∀v M',Mem.le M M'→IsL M' natV v (setsL l most)→FreshS M v→K (.ext (.tuple #[v,.int .i64 (setsE l most)])) [] M'):CallS Tryz.prog 85 [.ext (rngV u),.ext (.int .i64 most)] [] M [] K:=by
 cases hc:chkL l
 ·have e1:setsE l most=1:=by simp[setsE,hc]
  have e2:setsL l most=[]:=by simp[setsL,e1]
  rw[e1,e2]at hK
  have hK:=hK _ M (Mem.le.refl _) (isL_nil _ _ 0) (freshS_nil _ _)
  refine inlS (cs:=[]) Tryz.mixed Tryz.func85 rfl (by kernel_rfl) 0 rfl rfl ?_
  simp only[Tryz.f85,rngV]
  (replace hb0:=true_and True);have hf:=A2 hu.one hc;refine sV ?_;(repeat' ((first|((with_reducible first|refine brv_mk ?_ ?_|refine gsplitD ?_ ?_|refine gsplitG ?_ ?_)<;>intro h<;>(try simp only[Bool.not_eq_true',Bool.not_eq_false']at h)<;>replace hb0:=h)|((with_reducible refine yN ?_);refine kS 128 (checkR_ok u l hu hb ?_))|refine oB ?_|fail)<;>refine sV ?_<;>try with_reducible exact tT))<;>try clear hf
  exact hK
 ·cases hm:decide (1≤most∧most≤2)
  ·have e1:setsE l most=3:=by simp[setsE,hc,hm]
   have e2:setsL l most=[]:=by simp[setsL,e1]
   rw[e1,e2]at hK
   have hK:=hK _ M (Mem.le.refl _) (isL_nil _ _ 0) (freshS_nil _ _)
   have g:(decide (most<1) || decide (2<most))=true:=by
    simp only[decide_eq_false_iff_not]at hm
    simp only[Bool.or_eq_true,decide_eq_true_eq];omega
   refine inlS (cs:=[]) Tryz.mixed Tryz.func85 rfl (by kernel_rfl) 0 rfl rfl ?_
   simp only[Tryz.f85,rngV]
   (replace hb0:=true_and True);have hf:=A3 hu.one hc g;refine sV ?_;(repeat' ((first|((with_reducible first|refine brv_mk ?_ ?_|refine gsplitD ?_ ?_|refine gsplitG ?_ ?_)<;>intro h<;>(try simp only[Bool.not_eq_true',Bool.not_eq_false']at h)<;>replace hb0:=h)|((with_reducible refine yN ?_);refine kS 128 (checkR_ok u l hu hb ?_))|refine oB ?_|fail)<;>refine sV ?_<;>try with_reducible exact tT))<;>try clear hf
   all_goals exact hK
  ·simp only[decide_eq_true_eq]at hm
   obtain ⟨k,rfl⟩:=Int.eq_ofNat_of_zero_le (show 0≤most by omega)
   have e1:setsE l (k:Int)=0:=by simp only[setsE,hc,if_true];rw[if_pos (by simp;omega)]
   have e2:setsL l (k:Int)=hyps l.length k:=by simp[setsL,e1]
   rw[e1,e2]at hK
   have hlen:=chk_len hc
   have g1:decide ((k:Int)<1)=false:=by simp;omega
   have g2:decide (2<(k:Int))=false:=by simp;omega
   have hs:=shl_one (i:=l.length) (by omega)
   have hT:2^l.length≤2^8:=Nat.pow_le_pow_right (by decide) hlen.2
   obtain ⟨T,hT'⟩:∃T:Nat,T=2^l.length:=⟨_,rfl⟩
   have hT1:1≤T:=by rw[hT'];exact Nat.one_le_two_pow
   unfold hyps at hK
   rw[←hT']at hs hT hK
   refine CallS.frzF ?_
   refine inlS (cs:=[]) Tryz.mixed Tryz.func85 rfl (by kernel_rfl) 0 rfl rfl ?_
   simp only[Tryz.f85,rngV]
   (replace hb0:=true_and True);have hf:=A4 hu.one hc g1 g2;refine sV ?_;(repeat' ((first|((with_reducible first|refine brv_mk ?_ ?_|refine gsplitD ?_ ?_|refine gsplitG ?_ ?_)<;>intro h<;>(try simp only[Bool.not_eq_true',Bool.not_eq_false']at h)<;>replace hb0:=h)|((with_reducible refine yN ?_);refine kS 128 (checkR_ok u l hu hb ?_))|refine oB ?_|fail)<;>refine sV ?_<;>try with_reducible exact tT))<;>try clear hf
   refine ⟨fun d z=>∃s m,1≤s∧s≤T∧d=T-s∧m=(hypTo k s).length∧z=setSt M u k m s (hypTo k s),⟨T-1,setSt M u k 0 1 [],(le_nil 6 6 3 1 rfl (.inl rfl)).trans (le_sub ⟨rfl,rfl,rfl,rfl,rfl,rfl,trivial⟩ ⟨rfl,rfl,trivial⟩ rfl rfl rfl (keepLt0 _)),⟨1,0,by omega,by omega,rfl,rfl,rfl⟩⟩,?_⟩
   rintro d z ⟨s,m,h1,h2,rfl,hm2,rfl⟩
   have hml:=hypTo_len k s
   by_cases hlt:s<T
   ·have d1:decide ((s:Int)<(T:Int))=true:=by simp;omega
    have hw:IntKind.i64.wrap ((s:Int)+1)=((s+1:Nat):Int):=by rw[wrap_id (by omega) (by omega)];omega
    have hlen2:(cE natV (hypTo k s)).length=m:=by rw[cE_len];exact hm2.symm
    cases hh:hypP k s
    ·have hd:decide (((ones s 8:Nat):Int)≤(k:Int))=false:=by
      simp only[hypP,Bool.and_eq_false_iff,decide_eq_false_iff_not]at hh ⊢;omega
     (replace hb0:=true_and True);have hf:=A8 hu.one hu.len hu.sl hs d1 hw @hd @setSt.eq_1;refine sV ?_;(repeat' ((first|((with_reducible first|refine brv_mk ?_ ?_|refine gsplitD ?_ ?_|refine gsplitG ?_ ?_)<;>intro h<;>(try simp only[Bool.not_eq_true',Bool.not_eq_false']at h)<;>replace hb0:=h)|((with_reducible refine yN ?_);refine kS 129 (size_ok s (by omega) ?_))|refine oB ?_|fail)<;>refine sV ?_<;>try with_reducible exact tT))<;>try clear hf
     exact ⟨T-(s+1),setSt M u k m (s+1) (hypTo k s),by omega,le_sub ⟨rfl,rfl,rfl,rfl,rfl,rfl,trivial⟩ ⟨rfl,rfl,trivial⟩ rfl rfl rfl (keepLt0 _),s+1,m,by omega,by omega,rfl,by rw[hypTo_miss hh];exact hm2,by rw[hypTo_miss hh];rfl⟩
    ·have hd:decide (((ones s 8:Nat):Int)≤(k:Int))=true:=by
      simp only[hypP,Bool.and_eq_true,decide_eq_true_eq]at hh ⊢;omega
     have hsn:cE natV (hypTo k s)++[.ext (.int .i64 (s:Int))]=cE natV (hypTo k (s+1)):=by
      rw[hypTo_hit hh];exact cE_snoc natV _ s
     (replace hb0:=true_and True);have hf:=A12 hu.one hu.len hu.sl hs d1 hw @hd @setSt.eq_1 hlen2 hsn @cE_ment @hasK_nil;refine sV ?_;(repeat' ((first|((with_reducible first|refine brv_mk ?_ ?_|refine gsplitD ?_ ?_|refine gsplitG ?_ ?_)<;>intro h<;>(try simp only[Bool.not_eq_true',Bool.not_eq_false']at h)<;>replace hb0:=h)|((with_reducible refine yN ?_);refine kS 129 (size_ok s (by omega) ?_))|refine oB ?_|fail)<;>refine sV ?_<;>try with_reducible exact tT))<;>try clear hf
     exact ⟨T-(s+1),setSt M u k (m+1) (s+1) (hypTo k (s+1)),by omega,le_sub ⟨rfl,rfl,rfl,rfl,rfl,rfl,trivial⟩ ⟨rfl,rfl,trivial⟩ rfl rfl rfl (keepLt0 _),s+1,m+1,by omega,by omega,rfl,by rw[hypTo_hit hh,List.length_append (bs:=[_]),hm2];rfl,rfl⟩
   ·have d1:decide ((s:Int)<(T:Int))=false:=by simp;omega
    have es:s=T:=by omega
    subst es
    (replace hb0:=true_and True);have hf:=A7 hu.one hu.len hu.sl hs d1 @setSt.eq_1 @cE_ment;refine sV ?_;(repeat' ((first|((with_reducible first|refine brv_mk ?_ ?_|refine gsplitD ?_ ?_|refine gsplitG ?_ ?_)<;>intro h<;>(try simp only[Bool.not_eq_true',Bool.not_eq_false']at h)<;>replace hb0:=h)|refine oB ?_|fail)<;>refine sV ?_<;>try with_reducible exact tT))<;>try clear hf
    refine FrzF.tup [] [.int .i64 0] ((hypTo k s).map natV) rfl (by rw[hm2];simp) (fun v M'' hM hsl hf=>hK v M'' hM ?_ hf)
    rw[hm2]at hsl
    exact hsl
end
attribute [local congr] Stop_congr
def posF(a b:List Nat):Bool:=chkF a b&&decide (0<a.length)
section
variable {M:Mem}{K:AV→Hp→Mem→Prop}{u u1 u2:Value}{l1 l2:List Nat}{L:List FR}
theorem lenZ{a:List Nat}:decide ((a.length:Int)=0) = !decide (0<a.length):=by
 by_cases h:0<a.length
 ·rw[decide_eq_true h,decide_eq_false (by omega)];rfl
 ·rw[decide_eq_false h,decide_eq_true (by omega)];rfl
theorem pnew1_ok(hu:IsF M u1 u2 l1 l2)(hK:∀M',Mem.le M M'→K (.ext (.bool (!innF l1 l2))) [] M'):CallS Tryz.prog 121 [.ext (.agg #[u1,u2])] [] M [] K:=by
 refine inlS (cs:=[]) Tryz.mixed Tryz.func121 rfl (by kernel_rfl) 0 rfl rfl ?_
 simp only[Tryz.f121]
 have h1:=hu.n.one
 have h2:=hu.d.one
 have hf:=A2 h1 h2;refine wS ?_;refine kN 122 (inner_ok hu (fun M1 m1=>sG ?_));all_goals clear hf
 have hk:=hK M1 m1
 refine wG (A2 h1 h2) ?_
 exact hk
theorem pchk1_ok(hu:IsF M u1 u2 l1 l2)(hK:∀M',Mem.le M M'→K (.ext (.bool (!posF l1 l2))) [] M'):CallS Tryz.prog 118 [.ext (.agg #[u1,u2])] [] M [] K:=by
 refine inlS (cs:=[]) Tryz.mixed Tryz.func118 rfl (by kernel_rfl) 0 rfl rfl ?_
 simp only[Tryz.f118]
 have h1:=hu.n.one
 have h2:=hu.d.one
 have h3:=hu.n.len
 have h4:=hu.n.sl
 have hf:=A2 h1 h2;refine wS ?_;refine kN 55 (fcheck_ok hu.n hu.d hu.on hu.od hu.bn hu.bd (fun M1 m1=>sG ?_));all_goals clear hf
 have hk:=hK M1 m1
 unfold posF at hk
 cases hc:chkF l1 l2 with
 | false=>
  rw[hc]at hk
  refine wG (A5 h1 h2 h3 h4 hc) ?_
  exact hk
 | true=>
  rw[hc]at hk
  rw[Bool.true_and,←lenZ]at hk
  refine wG (A5 h1 h2 h3 h4 hc) ?_
  exact hk
def pnSt(M:Mem)(u:Value)(n i:Nat):St:={env:=[(8,.ext (.int .i64 (i:Int))),(7,.ext (.int .i64 (n:Int))),(4,.ext (.int .i64 0)),(1,.fn 121 []),(0,.ext u)],hp:=[],M:=M,kb:=0,fx:=[]}
theorem pnidx_ok(hu:IsR M 2 FR.c u L)(hL:okFL M L)(hb:L.length<1000000)(hK:∀M' (r:Int),Mem.le M M'→((r=-1∧L.all (fun x=>innF x.l1 x.l2)=true)∨(0≤r∧L.all (fun x=>innF x.l1 x.l2)=false))→K (.ext (.int .i64 r)) [] M'):CallS Tryz.prog 163 [.ext u,.fn 121 []] [] M [] K:=by
 refine inlS (cs:=[]) Tryz.mixed Tryz.func163 rfl (by kernel_rfl) 0 rfl rfl ?_
 simp only[Tryz.f163]
 have h1:=hu.one
 have h2:=hu.len
 have h3:=hu.sl
 refine wT (A3 h1 h2 h3) ?_
 refine ⟨fun m z=>∃M' i,m=L.length-i∧i≤L.length∧Mem.le M M'∧(∀x∈L.take i,innF x.l1 x.l2=true)∧z=pnSt M' u L.length i,
  ⟨L.length,pnSt M u L.length 0,le_sub ⟨rfl,rfl,rfl,rfl,rfl,trivial⟩ trivial rfl rfl rfl (keepLt0 _),⟨M,0,by omega,by omega,Mem.le.refl _,by simp,rfl⟩⟩,?_⟩
 rintro m z ⟨M2,i,rfl,hi,hM,hp,rfl⟩
 have hu2:=hu.le hM
 have hL2:=hL.le hM
 by_cases hlt:i<L.length
 case neg=>
  obtain rfl:i=L.length:=by omega
  have e1:decide ((L.length:Int)<(L.length:Int))=false:=by simp
  have hk:=hK M2 (-1) hM (.inl ⟨rfl,by rw[List.take_of_length_le (Nat.le_refl _)]at hp;exact List.all_eq_true.2 hp⟩)
  refine wT (A3 @pnSt.eq_1 h1 e1) ?_
  exact hk
 have e1:decide ((i:Int)<(L.length:Int))=true:=by rw[decide_eq_true_eq];omega
 have b1:(0:Int)≤(i:Int):=by omega
 have b2:(i:Int)<(L.length:Int):=by omega
 have hnn:=hu2.nn hlt
 have hat:=hu2.at (P:=Tryz.prog) (T:=32) (fun _=>rfl) tk32 tz32 hlt
 have hmem:=List.getElem_mem hlt
 have hF:=hL2 _ hmem
 have hnx:innF L[i].l1 L[i].l2=true→∀x∈L.take (i+1),innF x.l1 x.l2=true:=fun hx x hm=>by
  rw[List.take_add_one,List.getElem?_eq_getElem hlt]at hm
  rcases List.mem_append.1 hm with h1|h1
  ·exact hp x h1
  ·have:x=L[i]:=by simpa using h1
   rw[this];exact hx
 have wi:IntKind.i64.wrap ((i:Int)+1)=((i+1:Nat):Int):=succ_i (by omega)
 generalize L[i]=x at *
 obtain ⟨x1,x2,y1,y2⟩:=x
 have hat:lookM Tryz.prog 32 M2 (elemP u 2 i)=some (.agg #[x1,x2]):=hat
 have hF:IsF M2 x1 x2 y1 y2:=hF
 have p3:=hF.n.one
 have p4:=hF.d.one
 have hf:=A11 @pnSt.eq_1 h1 h2 h3 hnn e1 b1 b2 hat p3 p4;refine wS ?_;refine kN 121 (pnew1_ok hF (fun M3 c1=>sG ?_));all_goals clear hf
 have c1:Mem.le M2 M3:=c1
 refine Stop.go ?_
 cases hc:innF y1 y2 with
 | true=>
  refine wT wi ?_
  exact ⟨L.length-(i+1),pnSt M3 u L.length (i+1),by omega,le_sub ⟨rfl,rfl,rfl,rfl,rfl,trivial⟩ trivial rfl rfl rfl (keepLt0 _),M3,i+1,rfl,by omega,hM.trans c1,hnx hc,rfl⟩
 | false=>
  have hk:=hK M3 i (hM.trans c1) (.inr ⟨by omega,by
   cases h:L.all (fun x=>innF x.l1 x.l2) with
   | false=>rfl
   | true=>have:=List.all_eq_true.1 h _ hmem;simp only at this;rw[this]at hc;cases hc⟩)
  refine wT wi ?_
  exact hk
theorem pncont_ok(hu:IsR M 2 FR.c u L)(hL:okFL M L)(hb:L.length<1000000)(hK:∀M',Mem.le M M'→K (.ext (.bool (!L.all (fun x=>innF x.l1 x.l2)))) [] M'):CallS Tryz.prog 117 [.ext u,.fn 121 []] [] M [] K:=by
 refine inlS (cs:=[]) Tryz.mixed Tryz.func117 rfl (by kernel_rfl) 0 rfl rfl ?_
 simp only[Tryz.f117]
 have h1:=hu.one
 have hf:=h1;refine wS ?_;refine kN 163 (pnidx_ok hu hL hb (fun M3 r c1 c2=>sG ?_));all_goals clear hf
 have hk:=hK M3 c1
 have c2:(r=-1∧L.all (fun x=>innF x.l1 x.l2)=true)∨(0≤r∧L.all (fun x=>innF x.l1 x.l2)=false):=by assumption
 refine Stop.go ?_
 rcases c2 with ⟨rfl,h⟩|⟨h1,h⟩
 ·rw[h]at hk
  refine sU ?_;(repeat' ((first|refine oB ?_|fail)<;>refine sU ?_<;>try with_reducible exact tT))
  exact hk
 ·rw[h]at hk
  have d1:decide (0≤r)=true:=decide_eq_true h1
  refine wT d1 ?_
  exact hk
def pkSt(M:Mem)(u:Value)(n i:Nat):St:={env:=[(8,.ext (.int .i64 (i:Int))),(7,.ext (.int .i64 (n:Int))),(4,.ext (.int .i64 0)),(1,.fn 118 []),(0,.ext u)],hp:=[],M:=M,kb:=0,fx:=[]}
theorem pkidx_ok(hu:IsR M 2 FR.c u L)(hL:okFL M L)(hb:L.length<1000000)(hK:∀M' (r:Int),Mem.le M M'→((r=-1∧L.all (fun x=>posF x.l1 x.l2)=true)∨(0≤r∧L.all (fun x=>posF x.l1 x.l2)=false))→K (.ext (.int .i64 r)) [] M'):CallS Tryz.prog 163 [.ext u,.fn 118 []] [] M [] K:=by
 refine inlS (cs:=[]) Tryz.mixed Tryz.func163 rfl (by kernel_rfl) 0 rfl rfl ?_
 simp only[Tryz.f163]
 have h1:=hu.one
 have h2:=hu.len
 have h3:=hu.sl
 refine wT (A3 h1 h2 h3) ?_
 refine ⟨fun m z=>∃M' i,m=L.length-i∧i≤L.length∧Mem.le M M'∧(∀x∈L.take i,posF x.l1 x.l2=true)∧z=pkSt M' u L.length i,
  ⟨L.length,pkSt M u L.length 0,le_sub ⟨rfl,rfl,rfl,rfl,rfl,trivial⟩ trivial rfl rfl rfl (keepLt0 _),⟨M,0,by omega,by omega,Mem.le.refl _,by simp,rfl⟩⟩,?_⟩
 rintro m z ⟨M2,i,rfl,hi,hM,hp,rfl⟩
 have hu2:=hu.le hM
 have hL2:=hL.le hM
 by_cases hlt:i<L.length
 case neg=>
  obtain rfl:i=L.length:=by omega
  have e1:decide ((L.length:Int)<(L.length:Int))=false:=by simp
  have hk:=hK M2 (-1) hM (.inl ⟨rfl,by rw[List.take_of_length_le (Nat.le_refl _)]at hp;exact List.all_eq_true.2 hp⟩)
  refine wT (A3 @pkSt.eq_1 h1 e1) ?_
  exact hk
 have e1:decide ((i:Int)<(L.length:Int))=true:=by rw[decide_eq_true_eq];omega
 have b1:(0:Int)≤(i:Int):=by omega
 have b2:(i:Int)<(L.length:Int):=by omega
 have hnn:=hu2.nn hlt
 have hat:=hu2.at (P:=Tryz.prog) (T:=32) (fun _=>rfl) tk32 tz32 hlt
 have hmem:=List.getElem_mem hlt
 have hF:=hL2 _ hmem
 have hnx:posF L[i].l1 L[i].l2=true→∀x∈L.take (i+1),posF x.l1 x.l2=true:=fun hx x hm=>by
  rw[List.take_add_one,List.getElem?_eq_getElem hlt]at hm
  rcases List.mem_append.1 hm with h1|h1
  ·exact hp x h1
  ·have:x=L[i]:=by simpa using h1
   rw[this];exact hx
 have wi:IntKind.i64.wrap ((i:Int)+1)=((i+1:Nat):Int):=succ_i (by omega)
 generalize L[i]=x at *
 obtain ⟨x1,x2,y1,y2⟩:=x
 have hat:lookM Tryz.prog 32 M2 (elemP u 2 i)=some (.agg #[x1,x2]):=hat
 have hF:IsF M2 x1 x2 y1 y2:=hF
 have p3:=hF.n.one
 have p4:=hF.d.one
 have hf:=A11 @pkSt.eq_1 h1 h2 h3 hnn e1 b1 b2 hat p3 p4;refine wS ?_;refine kN 118 (pchk1_ok hF (fun M3 c1=>sG ?_));all_goals clear hf
 have c1:Mem.le M2 M3:=c1
 refine Stop.go ?_
 cases hc:posF y1 y2 with
 | true=>
  refine wT wi ?_
  exact ⟨L.length-(i+1),pkSt M3 u L.length (i+1),by omega,le_sub ⟨rfl,rfl,rfl,rfl,rfl,trivial⟩ trivial rfl rfl rfl (keepLt0 _),M3,i+1,rfl,by omega,hM.trans c1,hnx hc,rfl⟩
 | false=>
  have hk:=hK M3 i (hM.trans c1) (.inr ⟨by omega,by
   cases h:L.all (fun x=>posF x.l1 x.l2) with
   | false=>rfl
   | true=>have:=List.all_eq_true.1 h _ hmem;simp only at this;rw[this]at hc;cases hc⟩)
  refine wT wi ?_
  exact hk
theorem pkcont_ok(hu:IsR M 2 FR.c u L)(hL:okFL M L)(hb:L.length<1000000)(hK:∀M',Mem.le M M'→K (.ext (.bool (!L.all (fun x=>posF x.l1 x.l2)))) [] M'):CallS Tryz.prog 117 [.ext u,.fn 118 []] [] M [] K:=by
 refine inlS (cs:=[]) Tryz.mixed Tryz.func117 rfl (by kernel_rfl) 0 rfl rfl ?_
 simp only[Tryz.f117]
 have h1:=hu.one
 have hf:=h1;refine wS ?_;refine kN 163 (pkidx_ok hu hL hb (fun M3 r c1 c2=>sG ?_));all_goals clear hf
 have hk:=hK M3 c1
 have c2:(r=-1∧L.all (fun x=>posF x.l1 x.l2)=true)∨(0≤r∧L.all (fun x=>posF x.l1 x.l2)=false):=by assumption
 refine Stop.go ?_
 rcases c2 with ⟨rfl,h⟩|⟨h1,h⟩
 ·rw[h]at hk
  refine sU ?_;(repeat' ((first|refine oB ?_|fail)<;>refine sU ?_<;>try with_reducible exact tT))
  exact hk
 ·rw[h]at hk
  have d1:decide (0≤r)=true:=decide_eq_true h1
  refine wT d1 ?_
  exact hk
theorem cloneI_ok(u:Value)(l:List Int)(hu:IsL M intV64 u l)(hb:l.length<1000000000)(hK:∀w M',Mem.le M M'→IsL M' intV64 w l→FreshS M w→K (.ext w) [] M'):CallS Tryz.prog 50 [.ext u] [] M [] K:=by
 refine CallS.frzF ?_
 refine inlS (cs:=[]) Tryz.mixed Tryz.func50 rfl (by kernel_rfl) 0 rfl rfl ?_
 simp only[Tryz.f50]
 cases hn:nilS u with
 | true=>
  have hl:l=[]:=by
   rcases l with _|⟨a,r⟩
   ·rfl
   ·rw[hu.nn (i:=0) (by simp)]at hn;cases hn
  subst hl
  refine wT (A3 hn hu.one hu.sl) ?_
  exact .inl (hK _ _ (Mem.le.refl _) (isL_nil _ _ _) (freshS_nil _ _))
 | false=>
  have hrow:=hu.row
  have h1:List.map AV.ext (List.map intV64 l)=cE intV64 l:=rfl
  have a1:allOne (cE intV64 l)=True:=eq_true (allOne_cE intV64 (fun _=>rfl) l)
  have a2:(l.length*8≤140737488355328)=True:=eq_true (by omega)
  have a3:(l.length≤maxLen)=True:=eq_true (by unfold maxLen;omega)
  refine wT (A12 hn hu.one hu.sl hu.len hrow h1 a1 a2 a3 @cE_ment @cE_kill (A3 @cE_len @hasK_nil @Nat.mul_one)) ?_
  exact FrzF.one (l.map intV64) rfl (by simp) fun w M' h1 h2 h3=>hK w M' h1 (by unfold IsL;exact h2) h3
def eqISt(M:Mem)(u1 u2:Value)(n i:Nat):St:={env:=[(13,.ext (.int .i64 (i:Int))),(12,.ext (.int .i64 (n:Int))),(1,.ext u2),(0,.ext u1)],hp:=[],M:=M,kb:=0,fx:=[]}
theorem equalI_ok(u1 u2:Value)(l1 l2:List Int)(h1:IsL M intV64 u1 l1)(h2:IsL M intV64 u2 l2)(hb:l1.length<1000000000)(hb2:l2.length<1000000000)(hK:K (.ext (.bool (decide (l1=l2)))) [] M):CallS Tryz.prog 116 [.ext u1,.ext u2] [] M [] K:=by
 refine inlS (cs:=[]) Tryz.mixed Tryz.func116 rfl (by kernel_rfl) 0 rfl rfl ?_
 simp only[Tryz.f116]
 by_cases hl:l1.length=l2.length
 ·have hl2:decide ((l1.length:Int)=(l2.length:Int))=true:=by simp[hl]
  have hf:=A5 h1.len h1.sl h2.len h2.sl hl2;refine sF ?_;(repeat' ((first|((with_reducible refine isE 16 (by decide) ?_);refine dR (rP 0 4 [] (rP 4 4 [3] [(8,[])])) (rgL 16 8 []) [] ?_)|refine oB ?_|fail)<;>refine sF ?_<;>try with_reducible exact tT))<;>try clear hf
  refine ⟨fun m z=>∃i,i≤l1.length∧l1.take i=l2.take i∧m=l1.length-i∧z=eqISt M u1 u2 l1.length i,⟨l1.length,eqISt M u1 u2 l1.length 0,le_sub ⟨rfl,rfl,rfl,rfl,trivial⟩ trivial rfl rfl rfl (keepLt0 _),⟨0,by omega,rfl,rfl,rfl⟩⟩,?_⟩
  rintro m z ⟨i,hi,hpre,rfl,rfl⟩
  by_cases hlt:i<l1.length
  ·have hlt2:i<l2.length:=by omega
   have f1:=h1.idx (P:=Tryz.prog) (T:=3) tk3 tz3 (by omega) hlt
   have f2:=h2.idx (P:=Tryz.prog) (T:=3) tk3 tz3 (by omega) hlt2
   by_cases he:l1[i]=l2[i]
   ·have d1:decide (l1[i]=l2[i])=true:=by simp[he]
    have hf:=A5 f1 f2 d1 @intV64.eq_1 @eqISt.eq_1;refine sF ?_;(repeat' ((first|((with_reducible refine isE 16 (by decide) ?_);refine dR (rP 0 4 [] (rP 4 4 [3] [(8,[])])) (rgL 16 8 []) [] ?_)|refine oB ?_|fail)<;>refine sF ?_<;>try with_reducible exact tT))<;>try clear hf
    refine ⟨l1.length-(i+1),eqISt M u1 u2 l1.length (i+1),by omega,le_sub ⟨rfl,rfl,rfl,rfl,trivial⟩ trivial rfl rfl rfl (keepLt0 _),i+1,by omega,?_,rfl,rfl⟩
    rw[List.take_succ_eq_append_getElem hlt,List.take_succ_eq_append_getElem hlt2,hpre,he]
   ·have d1:decide (l1[i]=l2[i])=false:=by simpa using he
    have hf:=A5 f1 f2 d1 @intV64.eq_1 @eqISt.eq_1;refine sF ?_;(repeat' ((first|((with_reducible refine isE 16 (by decide) ?_);refine dR (rP 0 4 [] (rP 4 4 [3] [(8,[])])) (rgL 16 8 []) [] ?_)|refine oB ?_|fail)<;>refine sF ?_<;>try with_reducible exact tT))<;>try clear hf
    have e:decide (l1=l2)=false:=by
     simp only[decide_eq_false_iff_not]
     intro e;subst e;exact he rfl
    rw[e]at hK;exact hK
  ·have f1:=h1.fin hlt
   have ei:i=l1.length:=by omega
   subst ei
   rw[List.take_length,hl,List.take_length]at hpre
   have e:decide (l1=l2)=true:=by simp[hpre]
   rw[e]at hK
   have hf:=A2 f1 @eqISt.eq_1;refine sF ?_;(repeat' ((first|((with_reducible refine isE 16 (by decide) ?_);refine dR (rP 0 4 [] (rP 4 4 [3] [(8,[])])) (rgL 16 8 []) [] ?_)|refine oB ?_|fail)<;>refine sF ?_<;>try with_reducible exact tT))<;>try clear hf
   exact hK
 ·have hl2:decide ((l1.length:Int)=(l2.length:Int))=false:=by simp;omega
  have e:decide (l1=l2)=false:=by
   simp only[decide_eq_false_iff_not]
   intro e;subst e;exact hl rfl
  rw[e]at hK
  have hf:=A5 h1.len h1.sl h2.len h2.sl hl2;refine sF ?_;(repeat' ((first|((with_reducible refine isE 16 (by decide) ?_);refine dR (rP 0 4 [] (rP 4 4 [3] [(8,[])])) (rgL 16 8 []) [] ?_)|refine oB ?_|fail)<;>refine sF ?_<;>try with_reducible exact tT))<;>try clear hf
  exact hK
end
def hI(l:List Int)(m:Int):List Int:=(setsL l m).map fun (x:Nat)=>(x:Int)
def chkS(l s:List Int):Bool:=decide (hI l 1=s) || decide (hI l 2=s)
def oneS(L:List FR):Bool:=decide ((sumF L).1=0)&&decide (cmpF (ofN (sumF L).2.1) (ofN (sumF L).2.2) (ofN 1) (ofN 1)=0)
def chkB(l s:List Int)(L:List FR):Bool:=chkL l&&(decide (s.length=L.length)&&(chkS l s&&(L.all (fun x=>posF x.l1 x.l2)&&oneS L)))
theorem lenIE{a b:Nat}:decide ((a:Int)=(b:Int))=decide (a=b):=by
 by_cases h:a=b
 ·subst h;simp
 ·rw[decide_eq_false h,decide_eq_false (by omega)]
theorem hI_len(l:List Int)(m:Int):(hI l m).length<1000000:=by
 unfold hI setsL
 rw[List.length_map]
 split
 ·rename_i h
  unfold setsE at h
  split at h
  ·rename_i h1
   have:=hypTo_len m.toNat (2^l.length)
   have h2:2^l.length≤2^8:=Nat.pow_le_pow_right (by decide) (chk_len h1).2
   unfold hyps
   omega
  ·cases h
 ·simp
def fndP(l s:List Int)(i:Nat)(f:Bool):Prop:=(i=1∧f=false)∨(i=2∧f=decide (hI l 1=s))∨(i=3∧f=chkS l s)
theorem fndP.next{l s:List Int}{i:Nat}{f:Bool}(h:fndP l s i f)(hi:i<3):fndP l s (i+1) (f || decide (hI l (i:Int)=s)):=by
 rcases h with ⟨rfl,rfl⟩|⟨rfl,rfl⟩|⟨rfl,rfl⟩
 ·exact .inr (.inl ⟨rfl,by simp⟩)
 ·exact .inr (.inr ⟨rfl,rfl⟩)
 ·omega
section
variable {M:Mem}{K:AV→Hp→Mem→Prop}{ur us uw:Value}{l s:List Int}{L:List FR}
def pckSt(M:Mem)(ur us uw:Value)(i:Nat)(f:Bool):St:={env:=[(4,.ext (.int .i64 (i:Int))),(3,.ext (.bool f)),(2,.ext (.bool false)),(1,.own 1 0)],hp:=[(1,53,[.ext ur,.ext us,.ext uw])],M:=M,kb:=0,fx:=[]}
theorem pcheck_ok(h1:IsL M intV64 ur l)(h2:IsL M intV64 us s)(h3:IsR M 2 FR.c uw L)(h4:okFL M L)(b1:l.length<1000000)(b2:s.length<1000000)(b3:L.length<1000000)(hK:∀M',Mem.le M M'→K (.ext (.bool (chkB l s L))) [] M'):CallS Tryz.prog 78 [.ext (.agg #[ur,us,uw])] [] M [] K:=by
 refine inlS (cs:=[]) Tryz.mixed Tryz.func78 rfl (by kernel_rfl) 0 rfl rfl ?_
 simp only[Tryz.f78]
 have o1:=h1.one
 have o2:=h2.one
 have o3:=h3.one
 have n2:=h2.len
 have n3:=h3.len
 have s2:=h2.sl
 have s3:=h3.sl
 unfold chkB at hK
 cases hc:chkL l with
 | false=>
  rw[hc]at hK
  have hk:=hK M (Mem.le.refl _)
  have hf:=A8 o1 o2 o3 n2 n3 s2 s3 hc;refine sF ?_;(repeat' ((first|((with_reducible refine yN ?_);refine kS 115 (pchk_ok ur l h1 (by omega) ?_))|refine oB ?_|fail)<;>refine sF ?_<;>try with_reducible exact tT))<;>try clear hf
  exact hk
 | true=>
 rw[hc,Bool.true_and]at hK
 cases hl:decide (s.length=L.length) with
 | false=>
  rw[hl]at hK
  rw[←lenIE]at hl
  have hk:=hK M (Mem.le.refl _)
  have hf:=A9 o1 o2 o3 n2 n3 s2 s3 hc hl;refine sF ?_;(repeat' ((first|((with_reducible refine yN ?_);refine kS 115 (pchk_ok ur l h1 (by omega) ?_))|refine oB ?_|fail)<;>refine sF ?_<;>try with_reducible exact tT))<;>try clear hf
  exact hk
 | true=>
 rw[hl,Bool.true_and]at hK
 rw[←lenIE]at hl
 have hf:=A9 o1 o2 o3 n2 n3 s2 s3 hc hl;refine sF ?_;(repeat' ((first|((with_reducible refine yN ?_);refine kS 115 (pchk_ok ur l h1 (by omega) ?_))|refine oB ?_|fail)<;>refine sF ?_<;>try with_reducible exact tT))<;>try clear hf
 refine ⟨fun m z=>∃M' i f,i≤3∧m=3-i∧Mem.le M M'∧fndP l s i f∧z=pckSt M' ur us uw i f,
  ⟨2,pckSt M ur us uw 1 false,le_sub ⟨rfl,rfl,rfl,rfl,trivial⟩ ⟨rfl,trivial⟩ rfl rfl rfl (keepLt0 _),⟨M,1,false,by omega,by omega,Mem.le.refl _,.inl ⟨rfl,rfl⟩,rfl⟩⟩,?_⟩
 rintro m z ⟨M2,i,f,hi,rfl,hM,hf,rfl⟩
 by_cases hlt:i<3
 case neg=>
  obtain rfl:i=3:=by omega
  have hf3:f=chkS l s:=by
   rcases hf with ⟨h,_⟩|⟨h,_⟩|⟨_,h⟩
   ·cases h
   ·cases h
   ·exact h
  rw[←hf3]at hK
  have g1:decide (((3:Nat):Int)≤2)=false:=by decide
  cases f with
  | false=>
   have hk:=hK M2 hM
   refine wT (A9 @pckSt.eq_1 o1 o2 o3 n2 n3 s2 s3 g1) ?_
   exact hk
  | true=>
  rw[Bool.true_and]at hK
  have hf:=A9 @pckSt.eq_1 o1 o2 o3 n2 n3 s2 s3 g1;refine wS ?_;refine kN 117 (pkcont_ok (h3.le hM) (h4.le hM) b3 (fun M3 m3=>sG ?_));all_goals clear hf
  have m3:Mem.le M2 M3:=m3
  cases hp:L.all (fun x=>posF x.l1 x.l2) with
  | false=>
   rw[hp]at hK
   have hk:=hK M3 (hM.trans m3)
   refine wG (A8 o1 o2 o3 n2 n3 s2 s3 hp) ?_
   exact hk
  | true=>
  rw[hp,Bool.true_and]at hK
  unfold oneS at hK
  refine Stop.go ?_
  have hf:=A8 o1 o2 o3 n2 n3 s2 s3 hp;refine sF ?_;(repeat' ((first|((with_reducible refine yN ?_);refine kS 37 (fsum_ok ((h3.le hM).le m3) ((h4.le hM).le m3) b3 (fun w1 w2 M4 m4 a1 a2 _ _=>Stop.mk ?_)))|((with_reducible refine isE 53 (by decide) ?_);refine dR (rP 0 4 [] ((4,[3]) :: (rP 5 4 [] []))) [56,57] [] ?_)|refine oB ?_|fail)<;>refine sF ?_<;>try with_reducible exact tT))<;>try clear hf
  have m4:Mem.le M3 M4:=m4
  have hs:=okFL_sum a1 a2
  have p1:=a1.one
  have p2:=a2.one
  cases h0:decide ((sumF L).1=0) with
  | false=>
   rw[h0]at hK
   have hk:=hK M4 (hM.trans (m3.trans m4))
   refine Stop.go ?_
   have hf:=A6 o1 o2 o3 p1 p2 h0;refine sF ?_;(repeat' ((first|((with_reducible refine isE 53 (by decide) ?_);refine dR (rP 0 4 [] ((4,[3]) :: (rP 5 4 [] []))) [56,57] [] ?_)|refine oB ?_|fail)<;>refine sF ?_<;>try with_reducible exact tT))<;>try clear hf
   exact hk
  | true=>
  rw[h0,Bool.true_and]at hK
  refine Stop.go ?_
  have hf:=A6 o1 o2 o3 p1 p2 h0;refine sF ?_;(repeat' ((first|((with_reducible refine yM ?_);refine kS 119 (pwhole_ok (fun w3 w4 M5 m5 a5 _ _=>Stop.mk ?_)))|((with_reducible refine isE 53 (by decide) ?_);refine dR (rP 0 4 [] ((4,[3]) :: (rP 5 4 [] []))) [56,57] [] ?_)|refine oB ?_|fail)<;>refine sF ?_<;>try with_reducible exact tT))<;>try clear hf
  have m5:Mem.le M4 M5:=m5
  have p3:=a5.n.one
  have p4:=a5.d.one
  refine Stop.go ?_
  have hf:=A8 o1 o2 o3 p1 p2 p3 p4 h0;refine sF ?_;(repeat' ((first|((with_reducible refine yM ?_);refine kS 26 (fcmp_ok (hs.le m5) a5 (fun M6 m6=>Stop.mk ?_)))|((with_reducible refine isE 53 (by decide) ?_);refine dR (rP 0 4 [] ((4,[3]) :: (rP 5 4 [] []))) [56,57] [] ?_)|refine oB ?_|fail)<;>refine sF ?_<;>try with_reducible exact tT))<;>try clear hf
  have hk:=hK M6 (hM.trans (m3.trans (m4.trans (m5.trans m6))))
  refine Stop.go ?_
  have hf:=A8 o1 o2 o3 p1 p2 p3 p4 h0;refine sF ?_;(repeat' ((first|((with_reducible refine isE 53 (by decide) ?_);refine dR (rP 0 4 [] ((4,[3]) :: (rP 5 4 [] []))) [56,57] [] ?_)|refine oB ?_|fail)<;>refine sF ?_<;>try with_reducible exact tT))<;>try clear hf
  exact hk
 have g1:decide ((i:Int)≤2)=true:=by rw[decide_eq_true_eq];omega
 have wi:IntKind.i64.wrap ((i:Int)+1)=((i+1:Nat):Int):=succ_i (by omega)
 have hf2:=hf.next hlt
 clear hf
 have hf:=A9 @pckSt.eq_1 o1 o2 o3 n2 n3 s2 s3 g1;refine wS ?_;refine kN 102 (Sets_ok ur l (i:Int) (h1.le hM) (by omega) (fun v M3 m3 a3 _=>sG ?_));all_goals clear hf
 have m3:Mem.le M2 M3:=m3
 have a3:=a3.nat
 have p1:=a3.one
 refine Stop.go ?_
 cases f with
 | true=>
  refine wT (A9 o1 o2 o3 n2 n3 s2 s3 p1 wi) ?_
  exact ⟨3-(i+1),pckSt M3 ur us uw (i+1) true,by omega,le_sub ⟨rfl,rfl,rfl,rfl,trivial⟩ ⟨rfl,trivial⟩ rfl rfl rfl (keepLt0 _),M3,i+1,true,by omega,rfl,hM.trans m3,hf2,rfl⟩
 | false=>
  have hf:=A9 o1 o2 o3 n2 n3 s2 s3 p1 wi;refine sF ?_;(repeat' ((first|((with_reducible refine yN ?_);refine kS 116 (equalI_ok v us _ s a3 ((h2.le hM).le m3) (by have:=hI_len l i;unfold hI at this;omega) (by omega) ?_))|refine oB ?_|fail)<;>refine sF ?_<;>try with_reducible exact tT))<;>try clear hf
  exact ⟨3-(i+1),pckSt M3 ur us uw (i+1) (decide (hI l (i:Int)=s)),by omega,le_sub ⟨rfl,rfl,rfl,rfl,trivial⟩ ⟨rfl,trivial⟩ rfl rfl rfl (keepLt0 _),M3,i+1,_,by omega,rfl,hM.trans m3,hf2,rfl⟩
end
section
variable {M:Mem}{K:AV→Hp→Mem→Prop}{ur us uw:Value}{l s:List Int}{L:List FR}
def rckSt(M:Mem)(ur us uw:Value)(i:Nat)(f:Bool):St:={env:=[(4,.ext (.int .i64 (i:Int))),(3,.ext (.bool f)),(2,.ext (.bool false)),(1,.own 1 0)],hp:=[(1,53,[.ext ur,.ext us,.ext uw])],M:=M,kb:=0,fx:=[]}
def rckSt2(M:Mem)(ur us uw:Value)(i:Nat):St:={env:=[(7,.ext (.int .i64 (i:Int))),(2,.ext (.bool false)),(1,.own 1 0)],hp:=[(1,53,[.ext ur,.ext us,.ext uw])],M:=M,kb:=0,fx:=[]}
theorem rcheck35_ok(h1:IsL M intV64 ur l)(h2:IsL M intV64 us s)(h3:IsR M 2 FR.c uw L)(h4:okFL M L)(b1:l.length<1000000)(b2:s.length<1000000)(b3:L.length<1000000)(hK:∀M',Mem.le M M'→K (.ext (.bool (chkB l s L))) [] M'):CallS Tryz.prog 143 [.ext (.agg #[ur,us,uw])] [] M [] K:=by
 refine inlS (cs:=[]) Tryz.mixed Tryz.func143 rfl (by kernel_rfl) 0 rfl rfl ?_
 simp only[Tryz.f143]
 have o1:=h1.one
 have o2:=h2.one
 have o3:=h3.one
 have n2:=h2.len
 have n3:=h3.len
 have s2:=h2.sl
 have s3:=h3.sl
 unfold chkB at hK
 cases hc:chkL l with
 | false=>
  rw[hc]at hK
  have hk:=hK M (Mem.le.refl _)
  have hf:=A8 o1 o2 o3 n2 n3 s2 s3 hc;refine sF ?_;(repeat' ((first|((with_reducible refine yN ?_);refine kS 128 (checkR_ok ur l h1 (by omega) ?_))|refine oB ?_|fail)<;>refine sF ?_<;>try with_reducible exact tT))<;>try clear hf
  exact hk
 | true=>
 rw[hc,Bool.true_and]at hK
 cases hl:decide (s.length=L.length) with
 | false=>
  rw[hl]at hK
  rw[←lenIE]at hl
  have hk:=hK M (Mem.le.refl _)
  have hf:=A9 o1 o2 o3 n2 n3 s2 s3 hc hl;refine sF ?_;(repeat' ((first|((with_reducible refine yN ?_);refine kS 128 (checkR_ok ur l h1 (by omega) ?_))|refine oB ?_|fail)<;>refine sF ?_<;>try with_reducible exact tT))<;>try clear hf
  exact hk
 | true=>
 rw[hl,Bool.true_and]at hK
 rw[←lenIE]at hl
 have hf:=A9 o1 o2 o3 n2 n3 s2 s3 hc hl;refine sF ?_;(repeat' ((first|((with_reducible refine yN ?_);refine kS 128 (checkR_ok ur l h1 (by omega) ?_))|refine oB ?_|fail)<;>refine sF ?_<;>try with_reducible exact tT))<;>try clear hf
 refine ⟨fun m z=>∃M' i f,i≤3∧m=3-i∧Mem.le M M'∧fndP l s i f∧z=rckSt M' ur us uw i f,
  ⟨2,rckSt M ur us uw 1 false,le_sub ⟨rfl,rfl,rfl,rfl,trivial⟩ ⟨rfl,trivial⟩ rfl rfl rfl (keepLt0 _),⟨M,1,false,by omega,by omega,Mem.le.refl _,.inl ⟨rfl,rfl⟩,rfl⟩⟩,?_⟩
 rintro m z ⟨M2,i,f,hi,rfl,hM,hf,rfl⟩
 by_cases hlt:i<3
 case neg=>
  obtain rfl:i=3:=by omega
  have hf3:f=chkS l s:=by
   rcases hf with ⟨h,_⟩|⟨h,_⟩|⟨_,h⟩
   ·cases h
   ·cases h
   ·exact h
  rw[←hf3]at hK
  have g1:decide (((3:Nat):Int)≤2)=false:=by decide
  cases f with
  | false=>
   have hk:=hK M2 hM
   refine wT (A9 @rckSt.eq_1 o1 o2 o3 n2 n3 s2 s3 g1) ?_
   exact hk
  | true=>
  rw[Bool.true_and]at hK
  refine wT (A9 @rckSt.eq_1 o1 o2 o3 n2 n3 s2 s3 g1) ?_
  refine ⟨fun m z=>∃M' i,i≤L.length∧m=L.length-i∧Mem.le M2 M'∧(∀x∈L.take i,posF x.l1 x.l2=true)∧z=rckSt2 M' ur us uw i,
   ⟨L.length,rckSt2 M2 ur us uw 0,le_sub ⟨rfl,rfl,rfl,trivial⟩ ⟨rfl,trivial⟩ rfl rfl rfl (keepLt0 _),⟨M2,0,by omega,by omega,Mem.le.refl _,(fun x hx=>by rw[List.take_zero]at hx;cases hx),rfl⟩⟩,?_⟩
  rintro m z ⟨M3,i,hi,rfl,m3,hp,rfl⟩
  by_cases hlt:i<L.length
  case pos=>
   have e1:decide ((i:Int)<(L.length:Int))=true:=by rw[decide_eq_true_eq];omega
   have c1:(0:Int)≤(i:Int):=by omega
   have c2:(i:Int)<(L.length:Int):=by omega
   have wi:IntKind.i64.wrap ((i:Int)+1)=((i+1:Nat):Int):=succ_i (by omega)
   have hu2:=(h3.le hM).le m3
   have hnn:=hu2.nn hlt
   have hat:=hu2.at (P:=Tryz.prog) (T:=32) (fun _=>rfl) tk32 tz32 hlt
   have hmem:=List.getElem_mem hlt
   have hF:=(h4.le hM).le m3 _ hmem
   have hnx:posF L[i].l1 L[i].l2=true→∀x∈L.take (i+1),posF x.l1 x.l2=true:=fun hx x hm=>by
    rw[List.take_add_one,List.getElem?_eq_getElem hlt]at hm
    rcases List.mem_append.1 hm with h1|h1
    ·exact hp x h1
    ·have:x=L[i]:=by simpa using h1
     rw[this];exact hx
   have hno:posF L[i].l1 L[i].l2=false→L.all (fun x=>posF x.l1 x.l2)=false:=fun h=>by
    cases h2:L.all (fun x=>posF x.l1 x.l2) with
    | false=>rfl
    | true=>have hq:posF L[i].l1 L[i].l2=true:=List.all_eq_true.1 h2 _ hmem;rw[hq]at h;cases h
   generalize L[i]=x at *
   obtain ⟨x1,x2,y1,y2⟩:=x
   have hat:lookM Tryz.prog 32 M3 (elemP uw 2 i)=some (.agg #[x1,x2]):=hat
   have hF:IsF M3 x1 x2 y1 y2:=hF
   have p3:=hF.n.one
   have p4:=hF.d.one
   simp only at hnx hno
   unfold posF at hnx hno
   have hf:=A12 @rckSt2.eq_1 o1 o2 o3 n2 n3 s2 s3 p3 p4 e1 (A4 c1 c2 hnn hat);refine sF ?_;(repeat' ((first|((with_reducible refine yM ?_);refine kS 131 (rfcheck_ok hF.n hF.d hF.on hF.od hF.bn hF.bd (fun M4 m4=>Stop.mk ?_)))|((with_reducible refine isE 50 (by decide) ?_);refine dR ((0,[]) :: (1,[]) :: (2,[1]) :: (rP 3 7 [] ((10,[9]) :: (11,[]) :: (12,[]) :: (13,[9,12]) :: (rP 14 3 [] [])))) (rgL 50 3 (rgL 58 6 [])) [] ?_)|((with_reducible refine isE 73 (by decide) ?_);refine dR (rP 0 4 [] ((4,[3]) :: (rP 5 4 [] []))) [76,77] [] ?_)|refine oB ?_|fail)<;>refine sF ?_<;>try with_reducible exact tT))<;>try clear hf
   have m4:Mem.le M3 M4:=m4
   cases hc1:chkF y1 y2 with
   | false=>
    rw[hc1]at hno
    have hno:=hno rfl
    unfold posF at hK
    rw[hno]at hK
    have hk:=hK M4 (hM.trans (m3.trans m4))
    refine wG (A12 o1 o2 o3 n2 n3 s2 s3 p3 p4 c1 c2 (A3 hnn hat hc1)) ?_
    exact hk
   | true=>
   rw[hc1,Bool.true_and]at hnx hno
   have hat4:=lookM_le m4 hat
   have hf:=A12 o1 o2 o3 n2 n3 s2 s3 p3 p4 c1 c2 (A3 hnn hat4 hc1);refine wH ?_;refine kM 92 (rzero_ok (fun w1 w2 M5 m5 a5 _ _=>sG ?_));all_goals clear hf
   have m5:Mem.le M4 M5:=m5
   have p5:=a5.n.one
   have p6:=a5.d.one
   have hf:=A12 o1 o2 o3 n2 n3 s2 s3 p3 p4 p5 p6 (A4 c1 c2 hnn hc1);refine wH ?_;refine kM 91 (rfcmp_ok ((hF.le m4).le m5) a5 (fun M6 m6=>sG ?_));all_goals clear hf
   have m6:Mem.le M5 M6:=m6
   have hz:=(cmp_zero hF.on hc1).1
   cases hc2:decide (0<y1.length) with
   | false=>
    rw[hc2]at hz
    have hz:decide (cmpF y1 y2 (ofN 0) (ofN 1)≤0)=true:=by
     rw[decide_eq_false_iff_not]at hz;rw[decide_eq_true_eq];omega
    have hno:=hno hc2
    unfold posF at hK
    rw[hno]at hK
    have hk:=hK M6 (hM.trans (m3.trans (m4.trans (m5.trans m6))))
    refine wG (A12 o1 o2 o3 n2 n3 s2 s3 p3 p4 p5 p6 (A5 c1 c2 hnn hc1 hz)) ?_
    exact hk
   | true=>
    rw[hc2]at hz
    have hz:decide (cmpF y1 y2 (ofN 0) (ofN 1)≤0)=false:=by
     rw[decide_eq_true_eq]at hz;rw[decide_eq_false_iff_not];omega
    refine wG (A12 o1 o2 o3 n2 n3 s2 s3 p3 p4 p5 p6 (A6 c1 c2 hnn hc1 hz wi)) ?_
    exact ⟨L.length-(i+1),rckSt2 M6 ur us uw (i+1),by omega,le_sub ⟨rfl,rfl,rfl,trivial⟩ ⟨rfl,trivial⟩ rfl rfl rfl (keepLt0 _),M6,i+1,by omega,rfl,m3.trans (m4.trans (m5.trans m6)),hnx hc2,rfl⟩
  obtain rfl:i=L.length:=by omega
  have hp:L.all (fun x=>posF x.l1 x.l2)=true:=List.all_eq_true.2 (by rw[List.take_length]at hp;exact hp)
  rw[hp,Bool.true_and]at hK
  unfold oneS at hK
  have e1:decide ((L.length:Int)<(L.length:Int))=false:=by simp
  have hf:=A9 @rckSt2.eq_1 o1 o2 o3 n2 n3 s2 s3 e1;refine wS ?_;refine kN 135 (rfsum_ok ((h3.le hM).le m3) ((h4.le hM).le m3) b3 (fun w1 w2 M4 m4 a1 a2 _ _=>sG ?_));all_goals clear hf
  have m4:Mem.le M3 M4:=m4
  have hs:=okFL_sum a1 a2
  have p1:=a1.one
  have p2:=a2.one
  cases h0:decide ((sumF L).1=0) with
  | false=>
   rw[h0]at hK
   have hk:=hK M4 (hM.trans (m3.trans m4))
   refine Stop.go ?_
   have hf:=A6 o1 o2 o3 p1 p2 h0;refine sF ?_;(repeat' ((first|((with_reducible refine isE 50 (by decide) ?_);refine dR ((0,[]) :: (1,[]) :: (2,[1]) :: (rP 3 7 [] ((10,[9]) :: (11,[]) :: (12,[]) :: (13,[9,12]) :: (rP 14 3 [] [])))) (rgL 50 3 (rgL 58 6 [])) [] ?_)|((with_reducible refine isE 73 (by decide) ?_);refine dR (rP 0 4 [] ((4,[3]) :: (rP 5 4 [] []))) [76,77] [] ?_)|refine oB ?_|fail)<;>refine sF ?_<;>try with_reducible exact tT))<;>try clear hf
   exact hk
  | true=>
  rw[h0,Bool.true_and]at hK
  refine Stop.go ?_
  have hf:=A6 o1 o2 o3 p1 p2 h0;refine sF ?_;(repeat' ((first|((with_reducible refine yM ?_);refine kS 86 (rone_ok (fun w3 w4 M5 m5 a5 _ _=>Stop.mk ?_)))|((with_reducible refine isE 50 (by decide) ?_);refine dR ((0,[]) :: (1,[]) :: (2,[1]) :: (rP 3 7 [] ((10,[9]) :: (11,[]) :: (12,[]) :: (13,[9,12]) :: (rP 14 3 [] [])))) (rgL 50 3 (rgL 58 6 [])) [] ?_)|((with_reducible refine isE 73 (by decide) ?_);refine dR (rP 0 4 [] ((4,[3]) :: (rP 5 4 [] []))) [76,77] [] ?_)|refine oB ?_|fail)<;>refine sF ?_<;>try with_reducible exact tT))<;>try clear hf
  have m5:Mem.le M4 M5:=m5
  have p3:=a5.n.one
  have p4:=a5.d.one
  have hf:=A8 o1 o2 o3 p1 p2 p3 p4 h0;refine wH ?_;refine kM 91 (rfcmp_ok (hs.le m5) a5 (fun M6 m6=>sG ?_));all_goals clear hf
  have hk:=hK M6 (hM.trans (m3.trans (m4.trans (m5.trans m6))))
  refine wG (A8 o1 o2 o3 p1 p2 p3 p4 h0) ?_
  exact hk
 have g1:decide ((i:Int)≤2)=true:=by rw[decide_eq_true_eq];omega
 have wi:IntKind.i64.wrap ((i:Int)+1)=((i+1:Nat):Int):=succ_i (by omega)
 have hf2:=hf.next hlt
 clear hf
 have hf:=A9 @rckSt.eq_1 o1 o2 o3 n2 n3 s2 s3 g1;refine wS ?_;refine kN 85 (SetsR_ok ur l (i:Int) (h1.le hM) (by omega) (fun v M3 m3 a3 _=>sG ?_));all_goals clear hf
 have m3:Mem.le M2 M3:=m3
 have a3:=a3.nat
 have p1:=a3.one
 refine Stop.go ?_
 cases f with
 | true=>
  refine wT (A9 o1 o2 o3 n2 n3 s2 s3 p1 wi) ?_
  exact ⟨3-(i+1),rckSt M3 ur us uw (i+1) true,by omega,le_sub ⟨rfl,rfl,rfl,rfl,trivial⟩ ⟨rfl,trivial⟩ rfl rfl rfl (keepLt0 _),M3,i+1,true,by omega,rfl,hM.trans m3,hf2,rfl⟩
 | false=>
  have hf:=A9 o1 o2 o3 n2 n3 s2 s3 p1 wi;refine sF ?_;(repeat' ((first|((with_reducible refine yN ?_);refine kS 48 (sameInts_ok v us _ s a3 ((h2.le hM).le m3) (by have:=hI_len l i;unfold hI at this;omega) (by omega) ?_))|refine oB ?_|fail)<;>refine sF ?_<;>try with_reducible exact tT))<;>try clear hf
  exact ⟨3-(i+1),rckSt M3 ur us uw (i+1) (decide (hI l (i:Int)=s)),by omega,le_sub ⟨rfl,rfl,rfl,rfl,trivial⟩ ⟨rfl,trivial⟩ rfl rfl rfl (keepLt0 _),M3,i+1,_,by omega,rfl,hM.trans m3,hf2,rfl⟩
end
theorem Fz.flat{z:St}{B:St→Prop}{k n w:Nat}{T:TypeId}(t:Nat)(cs:List Value)(E:Env)(R:Hp)(ht:lk z.env t=.slo k 0 n w)(hk:lkH z.hp k=some (T,cs.map .ext))(hn:cs.length=n*w)(hkb:z.kb≤k)
  (hE:subE E z.env) (hE1:hasK k (mentE E)=false) (hR:subHp R z.hp) (hR1:hasK k (mentH R)=false) (hkeep:keepLt z.kb R z.hp) (hfx:∀k,k<z.kb→(lkH z.hp k).isSome=true→k∈z.fx)
  (h:∀M' U,Mem.le z.M M'→SlM M' w U n cs→FreshS z.M U→B {env:=(t,.ext U) :: E,hp:=R,M:=M',kb:=z.kb,fx:=z.fx,fr:=z.fr}):Fz z B:=by
 have hlk:∀j x,lkH [(k,T,cs.map AV.ext)] j=some x→j=k∧x=(T,cs.map .ext):=fun j x h=>by
  simp only[lkH]at h
  split at h
  ·rename_i e;cases h;exact ⟨e.symm,rfl⟩
  ·cases h
 have hc:closedH [(k,T,cs.map AV.ext)]:=fun j T' ds q hj hq=>by
  obtain ⟨_,e⟩:=hlk j _ hj
  cases e
  rw[mentL_ext]at hq;cases hq
 have hs:∀j,(lkH [(k,T,cs.map AV.ext)] j).isSome=true→j=k:=fun j hj=>by
  obtain ⟨x,hx⟩:=Option.isSome_iff_exists.1 hj
  exact (hlk j x hx).1
 refine Fz.frz [(k,T,cs.map .ext)] [t] E R hc (fun j x hx=>?_) hE (fun j h1 h2=>?_) hR (fun j h1 h2=>?_) hkeep hfx (fun M' ρ v us hM hh hu=>?_)
 ·obtain ⟨rfl,rfl⟩:=hlk j x hx
  exact ⟨hk,hkb⟩
 ·exact hasK_no.1 hE1 (hs j h1▸h2)
 ·exact hasK_no.1 hR1 (hs j h1▸h2)
 ·have h1:=hu t
  rw[ht]at h1
  have h2:=borI_is hh _ _ (fun j hj=>by
   have:j=k:=by simpa [AV.ment] using hj
   subst this
   simp[lkH]) h1
  obtain ⟨h3,h4⟩:=h2
  have h5:=h4 T cs (by simp[lkH]) (by omega)
  rw[List.drop_zero,List.take_of_length_le (by omega)]at h5
  exact h M' (us t) hM h5 h3
abbrev LP:=List Nat×List Nat
def prV(x:FR):LP:=(x.l1,x.l2)
def facE(s j:Nat)(x:FR):LP:=if s.testBit j then (x.l1,x.l2) else (ofN (othF x.l1 x.l2).1,ofN (othF x.l1 x.l2).2)
def facG(s:Nat):Nat→List FR→List LP
 | _,[]=>[]
 | j,x :: r=>facE s j x :: facG s (j+1) r
theorem facG_len(s:Nat):∀(L:List FR) (j:Nat),(facG s j L).length=L.length
 | [],_=>rfl
 | x :: r,j=>by rw[facG,List.length_cons,facG_len s r,List.length_cons]
theorem facG_take(s:Nat):∀(L:List FR) (j i:Nat) (h:i<L.length),(facG s j L).take (i+1)=(facG s j L).take i++[facE s (j+i) L[i]]
 | x :: r,j,0,_=>by simp[facG]
 | x :: r,j,i+1,h=>by
  rw[facG,List.take_succ_cons,List.take_succ_cons,facG_take s r (j+1) i (by simpa using h),List.cons_append,List.getElem_cons_succ,show j+1+i=j+(i+1) by omega]
def prodV(n d:Nat):List LP→Int×Nat×Nat
 | []=>(0,n,d)
 | x :: r=>if (mulF (ofN n) (ofN d) x.1 x.2).1=0 then prodV (mulF (ofN n) (ofN d) x.1 x.2).2.1 (mulF (ofN n) (ofN d) x.1 x.2).2.2 r else ((mulF (ofN n) (ofN d) x.1 x.2).1,0,0)
theorem prodG_V:∀(L:List FR) (n d:Nat),prodG n d L=prodV n d (L.map prV)
 | [],_,_=>rfl
 | x :: r,n,d=>by rw[prodG_cons,List.map_cons,prodV,prodG_V r];rfl
def prodI(n d:Nat):List LP→Nat×Nat
 | []=>(n,d)
 | x :: r=>prodI (mulF (ofN n) (ofN d) x.1 x.2).2.1 (mulF (ofN n) (ofN d) x.1 x.2).2.2 r
theorem prodV_I:∀(X:List LP) (n d:Nat),(prodV n d X).1=0→prodV n d X=(0,prodI n d X)
 | [],_,_,_=>rfl
 | x :: r,n,d,h=>by
  rw[prodV]at h ⊢
  rw[prodI]
  split at h
  ·rename_i h1;rw[if_pos h1];exact prodV_I r _ _ h
  ·rename_i h1;exact absurd h h1
def newW(P:List FR)(s:Nat):Nat×Nat:=prodI 1 1 (facG s 0 P)
def qFR(q:Nat×Nat):FR:=⟨.slice none 0 0,.slice none 0 0,ofN q.1,ofN q.2⟩
def normQ(qs:List (Nat×Nat)):Int×List (Nat×Nat):=normF (qs.map qFR)
theorem sumG_cong:∀(L L':List FR) (n d:Nat),L.map prV=L'.map prV→sumG n d L=sumG n d L'
 | [],[],_,_,_=>rfl
 | [],_ :: _,_,_,h=>by simp at h
 | _ :: _,[],_,_,h=>by simp at h
 | x :: r,y :: q,n,d,h=>by
  rw[List.map_cons,List.map_cons,List.cons.injEq]at h
  have h1:x.l1=y.l1∧x.l2=y.l2:=Prod.mk.injEq ..▸h.1
  rw[sumG_cons,sumG_cons,h1.1,h1.2,sumG_cong r q _ _ h.2]
theorem divG_cong:∀(L L':List FR) (n d:Nat),L.map prV=L'.map prV→divG n d L=divG n d L'
 | [],[],_,_,_=>rfl
 | [],_ :: _,_,_,h=>by simp at h
 | _ :: _,[],_,_,h=>by simp at h
 | x :: r,y :: q,n,d,h=>by
  rw[List.map_cons,List.map_cons,List.cons.injEq]at h
  have h1:x.l1=y.l1∧x.l2=y.l2:=Prod.mk.injEq ..▸h.1
  rw[divG_cons,divG_cons,h1.1,h1.2,divG_cong r q _ _ h.2]
theorem all_cong(f:List Nat→List Nat→Bool):∀(L L':List FR),L.map prV=L'.map prV→L.all (fun x=>f x.l1 x.l2)=L'.all (fun x=>f x.l1 x.l2)
 | [],[],_=>rfl
 | [],_ :: _,h=>by simp at h
 | _ :: _,[],h=>by simp at h
 | x :: r,y :: q,h=>by
  rw[List.map_cons,List.map_cons,List.cons.injEq]at h
  have h1:x.l1=y.l1∧x.l2=y.l2:=Prod.mk.injEq ..▸h.1
  rw[List.all_cons,List.all_cons,h1.1,h1.2,all_cong f r q h.2]
theorem sumF_cong{L L':List FR}(h:L.map prV=L'.map prV):sumF L=sumF L':=by
 unfold sumF
 rw[all_cong chkF L L' h,sumG_cong L L' 0 1 h]
theorem normF_cong{L L':List FR}(h:L.map prV=L'.map prV):normF L=normF L':=by
 unfold normF
 rw[sumF_cong h,divG_cong L L' _ _ h]
theorem normF_Q{L:List FR}{qs:List (Nat×Nat)}(h:L.map prV=qs.map fun q=>(ofN q.1,ofN q.2)):normF L=normQ qs:=normF_cong (by rw[h,List.map_map];rfl)
structure BR where
 e:Int
 l:List Int
 s:List Nat
 q:List (Nat×Nat)
def errB(e:Int):BR:=⟨e,[],[],[]⟩
def okB(l:List Int)(s:List Nat)(r:Int×List (Nat×Nat)):BR:=if r.1=0 then ⟨0,l,s,r.2⟩ else errB r.1
def newB(l:List Int)(P:List FR)(m:Int):BR:=
 if setsE l m=0 then (if P.length=l.length then (if P.all (fun x=>innF x.l1 x.l2) then okB l (setsL l m) (normQ ((setsL l m).map (newW P))) else errB 41) else errB 1) else errB (setsE l m)
def BelK(M:Mem)(K:AV→Hp→Mem→Prop)(r:BR):Prop:=∀ur us uw M',Mem.le M M'→IsL M' intV64 ur r.l→IsL M' natV us r.s→FQ M' uw r.q→K (.ext (.tuple #[.agg #[ur,us,uw],.int .i64 r.e])) [] M'
theorem BelK.err{M M':Mem}{K:AV→Hp→Mem→Prop}{e:Int}(h:BelK M K (errB e))(hM:Mem.le M M'):K (.ext (.tuple #[.agg #[.slice none 0 0,.slice none 0 0,.slice none 0 0],.int .i64 e])) [] M':=
 h _ _ _ M' hM (isL_nil _ _ _) (isL_nil _ _ _) (fq_nil _)
theorem in_bit0(s i:Nat)(h:s<2^63):decide (bits .and .i64 ((s >>> i:Nat):Int) 1=0) = !s.testBit i:=by
 have h1:=in_bit s i h
 have h2:bits .and .i64 ((s >>> i:Nat):Int) ((1:Nat):Int)=((((s >>> i:Nat) &&& 1:Nat)):Int):=bits_and (Nat.lt_of_le_of_lt (by rw[Nat.shiftRight_eq_div_pow];exact Nat.div_le_self _ _) h) (by omega)
 have h3:((s >>> i) &&& 1)=0∨((s >>> i) &&& 1)=1:=by
  rw[Nat.and_one_is_mod];omega
 rw[show ((1:Nat):Int)=1 from rfl]at h2
 rw[h2]at h1 ⊢
 rw[←h1]
 rcases h3 with h3|h3<;>rw[h3]<;>rfl
def BelKF(M:Mem)(K:AV→Hp→Mem→Prop)(r:BR):Prop:=∀ur us uw M',Mem.le M M'→IsL M' intV64 ur r.l→IsL M' natV us r.s→FQF M M' uw r.q→FreshS M ur→FreshS M us→K (.ext (.tuple #[.agg #[ur,us,uw],.int .i64 r.e])) [] M'
theorem BelKF.err{M M':Mem}{K:AV→Hp→Mem→Prop}{e:Int}(h:BelKF M K (errB e))(hM:Mem.le M M'):K (.ext (.tuple #[.agg #[.slice none 0 0,.slice none 0 0,.slice none 0 0],.int .i64 e])) [] M':=
 h _ _ _ M' hM (isL_nil _ _ _) (isL_nil _ _ _) (fqf_nil _ _) (freshS_nil _ _) (freshS_nil _ _)
section
variable {M:Mem}{K:AV→Hp→Mem→Prop}{ur up:Value}{l:List Int}{P:List FR}
def nwSt(M:Mem)(ur up us:Value)(n k:Nat)(D:List FR):St:={env:=[(44,.ext (.int .i64 (k:Int))),(43,.ext (.int .i64 (n:Int))),(42,.ext us),(10,.slo 41 0 n 2),(8,.ext us),(6,.own 6 0),(3,.own 3 0),(1,.ext up)],hp:=[(41,32,frC (D++List.replicate (n-k) zFR)),(6,53,[.ext (.slice none 0 0),.ext (.slice none 0 0),.ext (.slice none 0 0)]),(3,27,[.ext ur])],M:=M,kb:=0,fx:=[]}
def nwSt2(M:Mem)(ur up us:Value)(n k s np j:Nat)(D E:List FR):St:={env:=[(51,.ext (.int .i64 (j:Int))),(50,.ext (.int .i64 (np:Int))),(49,.ext up),(13,.slo 13 0 j 2),(12,.ext (.int .i64 (s:Int))),(11,.ext (.int .i64 (k:Int))),(44,.ext (.int .i64 (k:Int))),(43,.ext (.int .i64 (n:Int))),(42,.ext us),(10,.slo 41 0 n 2),(8,.ext us),(6,.own 6 0),(3,.own 3 0),(1,.ext up)],hp:=[(13,32,frC E),(41,32,frC (D++List.replicate (n-k) zFR)),(6,53,[.ext (.slice none 0 0),.ext (.slice none 0 0),.ext (.slice none 0 0)]),(3,27,[.ext ur])],M:=M,kb:=0,fx:=[]}
theorem pnewF_ok(m:Int)(h1:IsL M intV64 ur l)(h2:IsR M 2 FR.c up P)(h3:okFL M P)(b1:l.length<1000000)(b2:P.length<1000000)
  (hpr:P.all (fun x=>innF x.l1 x.l2)=true→P.length≤8→∀s,(prodV 1 1 (facG s 0 P)).1=0) (hK:BelKF M K (newB l P m)):CallS Tryz.prog 81 [.ext (.agg #[ur]),.ext up,.ext (.int .i64 m)] [] M [] K:=by
 refine inlS (cs:=[24]) Tryz.mixed Tryz.func81 rfl (by kernel_rfl) 0 rfl rfl ?_
 simp only[Tryz.f81]
 have o1:=h1.one
 have n1:=h1.len
 have s1:=h1.sl
 have o2:=h2.one
 have n2:=h2.len
 have s2:=h2.sl
 unfold newB at hK
 have hf:=A6 o1 o2 n1 n2 s1 s2;refine wS ?_;refine kN 102 (Sets_ok ur l m h1 (by omega) (fun us M1 m1 a1 afr=>sG ?_));all_goals clear hf
 have m1:Mem.le M M1:=m1
 have o3:=a1.one
 have n3:=a1.len
 have s3:=a1.sl
 by_cases he:setsE l m=0
 case neg=>
  rw[if_neg he]at hK
  have hk:=hK.err m1
  have e1:decide (setsE l m=0)=false:=decide_eq_false he
  refine wG (A4 o1 o2 o3 e1) ?_
  exact hk
 rw[if_pos he]at hK
 have e1:decide (setsE l m=0)=true:=decide_eq_true he
 by_cases hl:P.length=l.length
 case neg=>
  rw[if_neg hl]at hK
  have hk:=hK.err m1
  have e2:decide ((P.length:Int)=(l.length:Int))=false:=decide_eq_false (by omega)
  refine wG (A9 o1 o2 o3 n1 n2 s1 s2 e1 e2) ?_
  exact hk
 rw[if_pos hl]at hK
 have e2:decide ((P.length:Int)=(l.length:Int))=true:=decide_eq_true (by omega)
 have hf:=A9 o1 o2 o3 n1 n2 s1 s2 e1 e2;refine wH ?_;refine kN 117 (pncont_ok (h2.le m1) (h3.le m1) b2 (fun M2 m2=>sG ?_));all_goals clear hf
 have m2:Mem.le M1 M2:=m2
 cases hp:P.all (fun x=>innF x.l1 x.l2) with
 | false=>
  rw[hp,if_neg (by decide)]at hK
  have hk:=hK.err (m1.trans m2)
  refine wG (A4 o1 o2 o3 hp) ?_
  exact hk
 | true=>
 rw[hp,if_pos rfl]at hK
 have hlen:l.length≤8:=by
  unfold setsE at he
  split at he
  ·rename_i h;exact (chk_len h).2
  ·cases he
 have hpr:=hpr hp (by omega)
 have hbd:∀s∈setsL l m,s<256:=fun s hs=>by
  unfold setsL at hs
  rw[if_pos he]at hs
  unfold hyps hypTo at hs
  have:=List.mem_range.1 (List.mem_filter.1 hs).1
  have h2:2^l.length≤2^8:=Nat.pow_le_pow_right (by decide) hlen
  omega
 have hsl:=hI_len l m
 unfold hI at hsl
 rw[List.length_map]at hsl
 generalize setsL l m=S at *
 have t1:=Int.toNat_natCast S.length
 have t2:=frC_rep S.length
 refine wG (A12 o1 o2 o3 n1 n2 n3 s1 s2 s3 hp t1 (A4 t2 @frC_ment @frC_kill @hasK_nil)) ?_
 refine ⟨fun z=>∃M' D,D.length=S.length∧Mem.le M2 M'∧okFL M' D∧D.map prV=(S.map (newW P)).map (fun q=>(ofN q.1,ofN q.2))∧z=nwSt M' ur up us S.length S.length D,?_,?_⟩
 ·refine wT (A12 o1 o2 o3 n1 n2 n3 s1 s2 s3 @frC_ment @frC_kill @hasK_nil) ?_
  refine ⟨fun m z=>∃M' D k,m=S.length-k∧k≤S.length∧Mem.le M2 M'∧D.length=k∧okFL M' D∧D.map prV=((S.take k).map (newW P)).map (fun q=>(ofN q.1,ofN q.2))∧z=nwSt M' ur up us S.length k D,
   ⟨S.length,nwSt M2 ur up us S.length 0 [],le_sub ⟨rfl,rfl,rfl,rfl,rfl,rfl,rfl,rfl,trivial⟩ ⟨rfl,rfl,rfl,trivial⟩ rfl rfl rfl (keepLt0 _),⟨M2,[],0,by omega,by omega,Mem.le.refl _,rfl,(fun x hx=>by cases hx),rfl,rfl⟩⟩,?_⟩
  have a1:=a1.le m2
  rintro m' z ⟨M3,D,k,rfl,hk,hM,hD,hDo,hDv,rfl⟩
  by_cases hlt:k<S.length
  case neg=>
   obtain rfl:k=S.length:=by omega
   have d1:decide ((S.length:Int)<(S.length:Int))=false:=by simp
   rw[List.take_length]at hDv
   refine wT (A8 @nwSt.eq_1 d1 o1 o2 o3 @frC_ment @frC_kill @hasK_nil) ?_
   exact ⟨nwSt M3 ur up us S.length S.length D,le_sub ⟨rfl,rfl,rfl,rfl,rfl,rfl,rfl,rfl,trivial⟩ ⟨rfl,rfl,rfl,trivial⟩ rfl rfl rfl (keepLt0 _),M3,D,hD,hM,hDo,hDv,rfl⟩
  have d1:decide ((k:Int)<(S.length:Int))=true:=by rw[decide_eq_true_eq];omega
  have q1:(0:Int)≤(k:Int):=by omega
  have q2:(k:Int)<(S.length:Int):=by omega
  have a3:=a1.le hM
  have f1:=a3.idx (P:=Tryz.prog) (T:=3) tk3 tz3 (by omega) hlt
  have hs:=hbd _ (List.getElem_mem hlt)
  have htk:S.take (k+1)=S.take k++[S[k]]:=by rw[List.take_add_one,List.getElem?_eq_getElem hlt];rfl
  have wk:IntKind.i64.wrap ((k:Int)+1)=((k+1:Nat):Int):=succ_i (by omega)
  have hlen:=frC_len (D++List.replicate (S.length-k) zFR)
  rw[List.length_append,hD,List.length_replicate,show k+(S.length-k)=S.length by omega]at hlen
  have hin:k*2+2≤S.length*2:=by omega
  generalize S[k]=s at *
  refine wT (A12 @nwSt.eq_1 @natV.eq_1 d1 q1 q2 f1 o1 o2 o3 n2 s2 (A3 @frC_ment @frC_kill @hasK_nil)) ?_
  refine ⟨fun m z=>∃M' E j,m=P.length-j∧j≤P.length∧Mem.le M3 M'∧E.length=j∧okFL M' E∧E.map prV=(facG s 0 P).take j∧z=nwSt2 M' ur up us S.length k s P.length j D E,
   ⟨P.length,nwSt2 M3 ur up us S.length k s P.length 0 D [],(le_nil 13 13 32 2 rfl (.inl (by simp[awayB,mentE,mentH,mentL,AV.ment,hasK,frC_ment]))).trans (le_sub ⟨rfl,rfl,rfl,rfl,rfl,rfl,rfl,rfl,rfl,rfl,rfl,rfl,rfl,rfl,trivial⟩ ⟨rfl,rfl,rfl,rfl,trivial⟩ rfl rfl rfl (keepLt0 _)),⟨M3,[],0,by omega,by omega,Mem.le.refl _,rfl,(fun x hx=>by cases hx),rfl,rfl⟩⟩,?_⟩
  rintro m'' z ⟨M4,E,j,rfl,hj,hM4,hE,hEo,hEv,rfl⟩
  by_cases hjt:j<P.length
  case neg=>
   obtain rfl:j=P.length:=by omega
   have g1:decide ((P.length:Int)<(P.length:Int))=false:=by simp
   rw[List.take_of_length_le (by rw[facG_len];omega)]at hEv
   have hv:prodG 1 1 E=(0,(newW P s).1,(newW P s).2):=by rw[prodG_V,hEv,prodV_I _ _ _ (hpr s)];rfl
   have hf:=A10 @nwSt2.eq_1 g1 q1 q2 o1 o2 o3 @frC_ment @frC_kill @hasK_nil;refine wS ?_;refine yH 124 ?_;refine sF ?_;refine product_bor 13 P.length _ (by omega) hEo (by omega) hv (fun w1 w2 M5 c1 c2=>sG ?_);all_goals clear hf
   have c1:Mem.le M4 M5:=c1
   have p5:=c2.n.one
   have p6:=c2.d.one
   have hst:=frC_setF (L:=D++List.replicate (S.length-k) zFR) (i:=k) (by rw[List.length_append,hD,List.length_replicate];omega) ⟨w1,w2,ofN (newW P s).1,ofN (newW P s).2⟩
   rw[set_fill D _ _ hD hlt]at hst
   refine wG (A12 p5 p6 wk q1 q2 hlen hin hst o1 o2 o3 (A4 @frC_ment @frC_kill @hasK_nil @Nat.zero_add)) ?_
   exact ⟨S.length-(k+1),nwSt M5 ur up us S.length (k+1) (D++[⟨w1,w2,ofN (newW P s).1,ofN (newW P s).2⟩]),by omega,le_sub ⟨rfl,rfl,rfl,rfl,rfl,rfl,rfl,rfl,trivial⟩ ⟨rfl,rfl,rfl,trivial⟩ rfl rfl rfl (keepLt0 _),M5,_,k+1,rfl,by omega,hM.trans (hM4.trans c1),by rw[List.length_append,hD];rfl,(fun x hx=>by
    rcases List.mem_append.1 hx with hx|hx
    ·exact ((hDo x hx).le hM4).le c1
    ·rw[List.mem_singleton.1 hx];exact c2),by rw[List.map_append,hDv,htk,List.map_append,List.map_append];rfl,rfl⟩
  have g1:decide ((j:Int)<(P.length:Int))=true:=by rw[decide_eq_true_eq];omega
  have q3:(0:Int)≤(j:Int):=by omega
  have q4:(j:Int)<(P.length:Int):=by omega
  have hu2:=(((h2.le m1).le m2).le hM).le hM4
  have hnn:=hu2.nn hjt
  have hat:=hu2.at (P:=Tryz.prog) (T:=32) (fun _=>rfl) tk32 tz32 hjt
  have hF:=(((h3.le m1).le m2).le hM).le hM4 _ (List.getElem_mem hjt)
  have wj:IntKind.i64.wrap ((j:Int)+1)=((j+1:Nat):Int):=succ_i (by omega)
  have htj:=facG_take s P 0 j hjt
  have hlE:(frC E).length=j*2:=by rw[frC_len,hE]
  rw[Nat.zero_add]at htj
  have sh:=shr_nat s j (by omega)
  have ib:=in_bit0 s j (by omega)
  generalize P[j]=x at *
  obtain ⟨x1,x2,y1,y2⟩:=x
  have hat:lookM Tryz.prog 32 M4 (elemP up 2 j)=some (.agg #[x1,x2]):=hat
  have hF:IsF M4 x1 x2 y1 y2:=hF
  have p3:=hF.n.one
  have p4:=hF.d.one
  unfold facE at htj
  cases hb:s.testBit j with
  | true=>
   rw[hb]at htj ib
   have ap:frC E++[.ext x1,.ext x2]=frC (E++[⟨x1,x2,y1,y2⟩]):=by simp[frC,FR.c]
   refine wT (A12 @nwSt2.eq_1 g1 q3 q4 sh ib hnn hat p3 p4 ap (A10 hlE wj o1 o2 o3 n2 s2 @frC_ment @frC_kill @hasK_nil)) ?_
   exact ⟨P.length-(j+1),nwSt2 M4 ur up us S.length k s P.length (j+1) D (E++[⟨x1,x2,y1,y2⟩]),by omega,le_sub ⟨rfl,rfl,rfl,rfl,rfl,rfl,rfl,rfl,rfl,rfl,rfl,rfl,rfl,rfl,trivial⟩ ⟨rfl,rfl,rfl,rfl,trivial⟩ rfl rfl rfl (keepLt0 _),M4,_,j+1,rfl,by omega,hM4,by rw[List.length_append,hE];rfl,(fun x hx=>by
    rcases List.mem_append.1 hx with hx|hx
    ·exact hEo x hx
    ·rw[List.mem_singleton.1 hx];exact hF),by rw[List.map_append,hEv,htj];rfl,rfl⟩
  | false=>
   rw[hb]at htj ib
   have hf:=A12 @nwSt2.eq_1 g1 q3 q4 sh ib hnn hat p3 p4 hlE (A9 wj o1 o2 o3 n2 s2 @frC_ment @frC_kill @hasK_nil);refine wS ?_;refine kN 123 (other_ok hF (fun w1 w2 M5 c1 c2 _ _=>sG ?_));all_goals clear hf
   have c1:Mem.le M4 M5:=c1
   have p5:=c2.n.one
   have p6:=c2.d.one
   have ap:frC E++[.ext w1,.ext w2]=frC (E++[⟨w1,w2,ofN (othF y1 y2).1,ofN (othF y1 y2).2⟩]):=by simp[frC,FR.c]
   refine wG (A12 p5 p6 ap hlE wj o1 o2 o3 n2 s2 @frC_ment (A2 @frC_kill @hasK_nil)) ?_
   exact ⟨P.length-(j+1),nwSt2 M5 ur up us S.length k s P.length (j+1) D (E++[⟨w1,w2,ofN (othF y1 y2).1,ofN (othF y1 y2).2⟩]),by omega,le_sub ⟨rfl,rfl,rfl,rfl,rfl,rfl,rfl,rfl,rfl,rfl,rfl,rfl,rfl,rfl,trivial⟩ ⟨rfl,rfl,rfl,rfl,trivial⟩ rfl rfl rfl (keepLt0 _),M5,_,j+1,rfl,by omega,hM4.trans c1,by rw[List.length_append,hE];rfl,(fun x hx=>by
    rcases List.mem_append.1 hx with hx|hx
    ·exact (hEo x hx).le c1
    ·rw[List.mem_singleton.1 hx];exact c2),by rw[List.map_append,hEv,htj];rfl,rfl⟩
 ·rintro z ⟨M3,D,hD,hM2,hDo,hDv,rfl⟩
  have hM:=(m1.trans m2).trans hM2
  refine Fz.flat (k:=41) (n:=S.length) (w:=2) (T:=32) 10 (D.flatMap FR.c) [(8,.ext us),(6,.own 6 0),(3,.own 3 0)] [(6,53,[.ext (.slice none 0 0),.ext (.slice none 0 0),.ext (.slice none 0 0)]),(3,27,[.ext ur])] rfl (by
   show some (_,frC (D++List.replicate (S.length-S.length) zFR))=_
   rw[Nat.sub_self,List.replicate_zero,List.append_nil];rfl) (by rw[flat_len (z:=2) (f:=FR.c) (fun _=>rfl),hD]) (Nat.zero_le _) ⟨rfl,rfl,rfl,trivial⟩ rfl ⟨rfl,rfl,trivial⟩ rfl (keepLt0 _) (fun j hj _=>absurd hj (Nat.not_lt_zero _)) (fun M4 w hM4 hw _=>?_)
  have hu:IsR M4 2 FR.c w D:=by unfold IsR;rw[hD];exact hw
  have p1:=hu.one
  have hn:=normF_Q hDv
  rw[←hn]at hK
  have hf:=A3 p1 o1 o3;refine wS ?_;refine kN 125 (normalF_ok hu (hDo.le hM4) (by omega) (fun U M5 c1 c2=>sG ?_));all_goals clear hf
  have c1:Mem.le M4 M5:=c1
  have hM4:Mem.le M3 M4:=hM4
  have p2:U.oneCell'=true:=by obtain ⟨_,h,_⟩:=c2;exact h.one
  have m5:Mem.le M M5:=hM.trans (hM4.trans c1)
  unfold okB at hK
  by_cases h0:(normF D).1=0
  case neg=>
   rw[if_neg h0]at hK
   have hk:=hK.err m5
   have d0:decide ((normF D).1=0)=false:=decide_eq_false h0
   refine wG (A5 p1 p2 o1 o3 d0) ?_
   exact hk
  rw[if_pos h0]at hK
  have d0:decide ((normF D).1=0)=true:=decide_eq_true h0
  have hf:=A5 p1 p2 o1 o3 d0;refine wH ?_;refine kN 50 (cloneI_ok ur l (h1.le m5) (by omega) (fun v M6 g1 g2 g3=>sG ?_));all_goals clear hf
  have g1:Mem.le M5 M6:=g1
  have p3:=g2.one
  have a6:=(((a1.le m2).le hM2).le (hM4.trans c1)).le g1
  have hk:=hK v us U M6 (m5.trans g1) g2 a6 ((c2.base (hM.trans hM4)).le g1) (g3.le m5) afr
  refine wG (A6 p1 p2 p3 o1 o3 d0) ?_
  exact hk
theorem pnew_ok(m:Int)(h1:IsL M intV64 ur l)(h2:IsR M 2 FR.c up P)(h3:okFL M P)(b1:l.length<1000000)(b2:P.length<1000000)
  (hpr:P.all (fun x=>innF x.l1 x.l2)=true→P.length≤8→∀s,(prodV 1 1 (facG s 0 P)).1=0) (hK:BelK M K (newB l P m)):CallS Tryz.prog 81 [.ext (.agg #[ur]),.ext up,.ext (.int .i64 m)] [] M [] K:=
 pnewF_ok m h1 h2 h3 b1 b2 hpr fun a b c M' g1 g2 g3 g4 _ _=>hK a b c M' g1 g2 g3 g4.fq
end
theorem facG_drop(s:Nat):∀(L:List FR) (j i:Nat) (h:i<L.length),(facG s j L).drop i=facE s (j+i) L[i] :: (facG s j L).drop (i+1)
 | x :: r,j,0,_=>by simp[facG]
 | x :: r,j,i+1,h=>by
  rw[facG,List.drop_succ_cons,List.drop_succ_cons,facG_drop s r (j+1) i (by simpa using h),List.getElem_cons_succ,show j+1+i=j+(i+1) by omega]
section
variable {M:Mem}{K:AV→Hp→Mem→Prop}{ur up:Value}{l:List Int}{P:List FR}
def rnSt0(M:Mem)(ur up us:Value)(i:Nat):St:={env:=[(10,.ext (.int .i64 (i:Int))),(8,.ext us),(6,.own 6 0),(3,.own 3 0),(1,.ext up)],hp:=[(6,53,[.ext (.slice none 0 0),.ext (.slice none 0 0),.ext (.slice none 0 0)]),(3,27,[.ext ur])],M:=M,kb:=0,fx:=[]}
def rnSt(M:Mem)(ur up us:Value)(k:Nat)(D:List FR):St:={env:=[(12,.ext (.int .i64 (k:Int))),(11,.slo 11 0 k 2),(8,.ext us),(6,.own 6 0),(3,.own 3 0),(1,.ext up)],hp:=[(11,32,frC D),(6,53,[.ext (.slice none 0 0),.ext (.slice none 0 0),.ext (.slice none 0 0)]),(3,27,[.ext ur])],M:=M,kb:=0,fx:=[]}
def rnSt2(M:Mem)(ur up us w1 w2:Value)(k j:Nat)(D:List FR):St:={env:=[(14,.ext (.int .i64 (j:Int))),(13,.own 13 0),(12,.ext (.int .i64 (k:Int))),(11,.slo 11 0 k 2),(8,.ext us),(6,.own 6 0),(3,.own 3 0),(1,.ext up)],hp:=[(13,32,[.ext w1,.ext w2]),(11,32,frC D),(6,53,[.ext (.slice none 0 0),.ext (.slice none 0 0),.ext (.slice none 0 0)]),(3,27,[.ext ur])],M:=M,kb:=0,fx:=[]}
theorem rnew_ok(m:Int)(h1:IsL M intV64 ur l)(h2:IsR M 2 FR.c up P)(h3:okFL M P)(b1:l.length<1000000)(b2:P.length<1000000)
  (hK:BelK M K (newB l P m)):CallS Tryz.prog 45 [.ext (.agg #[ur]),.ext up,.ext (.int .i64 m)] [] M [] K:=by
 refine inlS (cs:=[24]) Tryz.mixed Tryz.func45 rfl (by kernel_rfl) 0 rfl rfl ?_
 simp only[Tryz.f45]
 have o1:=h1.one
 have n1:=h1.len
 have s1:=h1.sl
 have o2:=h2.one
 have n2:=h2.len
 have s2:=h2.sl
 unfold newB at hK
 have hf:=A6 o1 o2 n1 n2 s1 s2;refine wS ?_;refine kN 85 (SetsR_ok ur l m h1 (by omega) (fun us M1 m1 a1 _=>sG ?_));all_goals clear hf
 have m1:Mem.le M M1:=m1
 have o3:=a1.one
 have n3:=a1.len
 have s3:=a1.sl
 by_cases he:setsE l m=0
 case neg=>
  rw[if_neg he]at hK
  have hk:=hK.err m1
  have e1:decide (setsE l m=0)=false:=decide_eq_false he
  refine wG (A4 o1 o2 o3 e1) ?_
  exact hk
 rw[if_pos he]at hK
 have e1:decide (setsE l m=0)=true:=decide_eq_true he
 by_cases hl:P.length=l.length
 case neg=>
  rw[if_neg hl]at hK
  have hk:=hK.err m1
  have e2:decide ((P.length:Int)=(l.length:Int))=false:=decide_eq_false (by omega)
  refine wG (A9 o1 o2 o3 n1 n2 s1 s2 e1 e2) ?_
  exact hk
 rw[if_pos hl]at hK
 have e2:decide ((P.length:Int)=(l.length:Int))=true:=decide_eq_true (by omega)
 have hlen:l.length≤8:=by
  unfold setsE at he
  split at he
  ·rename_i h;exact (chk_len h).2
  ·cases he
 have hbd:∀s∈setsL l m,s<256:=fun s hs=>by
  unfold setsL at hs
  rw[if_pos he]at hs
  unfold hyps hypTo at hs
  have:=List.mem_range.1 (List.mem_filter.1 hs).1
  have h2:2^l.length≤2^8:=Nat.pow_le_pow_right (by decide) hlen
  omega
 have hsl:=hI_len l m
 unfold hI at hsl
 rw[List.length_map]at hsl
 generalize setsL l m=S at *
 refine wG (A9 o1 o2 o3 n1 n2 s1 s2 e1 e2) ?_
 refine ⟨fun m z=>∃M' i,m=P.length-i∧i≤P.length∧Mem.le M1 M'∧(∀x∈P.take i,innF x.l1 x.l2=true)∧z=rnSt0 M' ur up us i,
  ⟨P.length,rnSt0 M1 ur up us 0,le_sub ⟨rfl,rfl,rfl,rfl,rfl,trivial⟩ ⟨rfl,rfl,trivial⟩ rfl rfl rfl (keepLt0 _),⟨M1,0,by omega,by omega,Mem.le.refl _,(fun x hx=>by rw[List.take_zero]at hx;cases hx),rfl⟩⟩,?_⟩
 rintro m' z ⟨M2,i,rfl,hi,m2,hp,rfl⟩
 by_cases hlt:i<P.length
 case pos=>
  have d1:decide ((i:Int)<(P.length:Int))=true:=by rw[decide_eq_true_eq];omega
  have q3:(0:Int)≤(i:Int):=by omega
  have q4:(i:Int)<(P.length:Int):=by omega
  have hu2:=(h2.le m1).le m2
  have hnn:=hu2.nn hlt
  have hat:=hu2.at (P:=Tryz.prog) (T:=32) (fun _=>rfl) tk32 tz32 hlt
  have hmem:=List.getElem_mem hlt
  have hF:=(h3.le m1).le m2 _ hmem
  have wi:IntKind.i64.wrap ((i:Int)+1)=((i+1:Nat):Int):=succ_i (by omega)
  have hnx:innF P[i].l1 P[i].l2=true→∀x∈P.take (i+1),innF x.l1 x.l2=true:=fun hx x hm=>by
   rw[List.take_add_one,List.getElem?_eq_getElem hlt]at hm
   rcases List.mem_append.1 hm with h1|h1
   ·exact hp x h1
   ·have:x=P[i]:=by simpa using h1
    rw[this];exact hx
  have hno:innF P[i].l1 P[i].l2=false→P.all (fun x=>innF x.l1 x.l2)=false:=fun h=>by
   cases h2:P.all (fun x=>innF x.l1 x.l2) with
   | false=>rfl
   | true=>have hq:innF P[i].l1 P[i].l2=true:=List.all_eq_true.1 h2 _ hmem;rw[hq]at h;cases h
  generalize P[i]=x at *
  obtain ⟨x1,x2,y1,y2⟩:=x
  have hat:lookM Tryz.prog 32 M2 (elemP up 2 i)=some (.agg #[x1,x2]):=hat
  have hF:IsF M2 x1 x2 y1 y2:=hF
  have p3:=hF.n.one
  have p4:=hF.d.one
  simp only at hnx hno
  have hf:=A12 @rnSt0.eq_1 d1 q3 q4 hnn hat p3 p4 o1 o2 o3 (A2 n2 s2);refine wS ?_;refine kN 47 (rinner_ok hF (fun M3 m3=>sG ?_));all_goals clear hf
  have m3:Mem.le M2 M3:=m3
  cases hc:innF y1 y2 with
  | false=>
   rw[hno hc,if_neg (by decide)]at hK
   have hk:=hK.err (m1.trans (m2.trans m3))
   refine wG (A4 o1 o2 o3 hc) ?_
   exact hk
  | true=>
   refine wG (A5 o1 o2 o3 hc wi) ?_
   exact ⟨P.length-(i+1),rnSt0 M3 ur up us (i+1),by omega,le_sub ⟨rfl,rfl,rfl,rfl,rfl,trivial⟩ ⟨rfl,rfl,trivial⟩ rfl rfl rfl (keepLt0 _),M3,i+1,rfl,by omega,m2.trans m3,hnx hc,rfl⟩
 obtain rfl:i=P.length:=by omega
 have hp:P.all (fun x=>innF x.l1 x.l2)=true:=List.all_eq_true.2 (by rw[List.take_length]at hp;exact hp)
 rw[hp,if_pos rfl]at hK
 have d1:decide ((P.length:Int)<(P.length:Int))=false:=by simp
 refine wT (A7 @rnSt0.eq_1 d1 o1 o2 o3 n2 s2) ?_
 clear d1
 refine ⟨fun z=>∃M' D,D.length=S.length∧Mem.le M2 M'∧okFL M' D∧D.map prV=(S.map (newW P)).map (fun q=>(ofN q.1,ofN q.2))∧z=rnSt M' ur up us S.length D,?_,?_⟩
 ·refine wT (A9 o1 o2 o3 n1 n2 n3 s1 s2 s3) ?_
  refine ⟨fun m z=>∃M' D k,m=S.length-k∧k≤S.length∧Mem.le M2 M'∧D.length=k∧okFL M' D∧D.map prV=((S.take k).map (newW P)).map (fun q=>(ofN q.1,ofN q.2))∧z=rnSt M' ur up us k D,
   ⟨S.length,rnSt M2 ur up us 0 [],(le_nil 11 11 32 2 rfl (.inl (by simp[awayB,mentE,mentH,mentL,AV.ment,hasK,frC_ment]))).trans (le_sub ⟨rfl,rfl,rfl,rfl,rfl,rfl,trivial⟩ ⟨rfl,rfl,rfl,trivial⟩ rfl rfl rfl (keepLt0 _)),⟨M2,[],0,by omega,by omega,Mem.le.refl _,rfl,(fun x hx=>by cases hx),rfl,rfl⟩⟩,?_⟩
  have a1:=a1.le m2
  rintro m' z ⟨M3,D,k,rfl,hk,hM,hD,hDo,hDv,rfl⟩
  by_cases hlt:k<S.length
  case neg=>
   obtain rfl:k=S.length:=by omega
   have d1:decide ((S.length:Int)<(S.length:Int))=false:=by simp
   rw[List.take_length]at hDv
   refine wT (A10 @rnSt.eq_1 d1 o1 o2 o3 n3 s3 @frC_ment @frC_kill @hasK_nil) ?_
   exact ⟨rnSt M3 ur up us S.length D,le_sub ⟨rfl,rfl,rfl,rfl,rfl,rfl,trivial⟩ ⟨rfl,rfl,rfl,trivial⟩ rfl rfl rfl (keepLt0 _),M3,D,hD,hM,hDo,hDv,rfl⟩
  have d1:decide ((k:Int)<(S.length:Int))=true:=by rw[decide_eq_true_eq];omega
  have q1:(0:Int)≤(k:Int):=by omega
  have q2:(k:Int)<(S.length:Int):=by omega
  have a3:=a1.le hM
  have hs:=hbd _ (List.getElem_mem hlt)
  have htk:S.take (k+1)=S.take k++[S[k]]:=by rw[List.take_add_one,List.getElem?_eq_getElem hlt];rfl
  have wk:IntKind.i64.wrap ((k:Int)+1)=((k+1:Nat):Int):=succ_i (by omega)
  have hlen:=frC_len D
  rw[hD]at hlen
  have hix:∀M',Mem.le M3 M'→_:=fun M' h=>(a3.le h).idx (P:=Tryz.prog) (T:=3) tk3 tz3 (by omega) hlt
  generalize S[k]=s at *
  have hf:=A10 @rnSt.eq_1 d1 o1 o2 o3 n3 s3 @frC_ment @frC_kill @hasK_nil;refine wS ?_;refine kN 86 (rone_ok (fun w1 w2 M4 m4 a4 _ _=>sG ?_));all_goals clear hf
  have m4:Mem.le M3 M4:=m4
  have p1:=a4.n.one
  have p2:=a4.d.one
  refine wG (A8 p1 p2 o1 o2 o3 @frC_ment @frC_kill @hasK_nil) ?_
  refine ⟨fun m z=>∃M' w1 w2 n d j,m=P.length-j∧j≤P.length∧Mem.le M3 M'∧IsF M' w1 w2 (ofN n) (ofN d)∧prodI n d ((facG s 0 P).drop j)=newW P s∧z=rnSt2 M' ur up us w1 w2 k j D,
   ⟨P.length,rnSt2 M4 ur up us w1 w2 k 0 D,le_sub ⟨rfl,rfl,rfl,rfl,rfl,rfl,rfl,rfl,trivial⟩ ⟨rfl,rfl,rfl,rfl,trivial⟩ rfl rfl rfl (keepLt0 _),⟨M4,w1,w2,1,1,0,by omega,by omega,m4,a4,rfl,rfl⟩⟩,?_⟩
  clear p1 p2 a4 m4
  rintro m'' z ⟨M4,w1,w2,n,d,j,rfl,hj,hM4,hw,hv,rfl⟩
  have p1:=hw.n.one
  have p2:=hw.d.one
  by_cases hjt:j<P.length
  case neg=>
   obtain rfl:j=P.length:=by omega
   have g1:decide ((P.length:Int)<(P.length:Int))=false:=by simp
   rw[List.drop_of_length_le (by rw[facG_len];omega),prodI]at hv
   have ap:frC D++[.ext w1,.ext w2]=frC (D++[⟨w1,w2,ofN n,ofN d⟩]):=by simp[frC,FR.c]
   refine wT (A12 @rnSt2.eq_1 g1 p1 p2 ap hlen wk o1 o2 o3 n2 (A4 s2 @frC_ment @frC_kill @hasK_nil)) ?_
   exact ⟨S.length-(k+1),rnSt M4 ur up us (k+1) (D++[⟨w1,w2,ofN n,ofN d⟩]),by omega,le_sub ⟨rfl,rfl,rfl,rfl,rfl,rfl,trivial⟩ ⟨rfl,rfl,rfl,trivial⟩ rfl rfl rfl (keepLt0 _),M4,_,k+1,rfl,by omega,hM.trans hM4,by rw[List.length_append,hD];rfl,(fun x hx=>by
    rcases List.mem_append.1 hx with hx|hx
    ·exact (hDo x hx).le hM4
    ·rw[List.mem_singleton.1 hx];exact hw),by rw[List.map_append,hDv,htk,List.map_append,List.map_append,List.map_cons,List.map_cons,←hv];rfl,rfl⟩
  have g1:decide ((j:Int)<(P.length:Int))=true:=by rw[decide_eq_true_eq];omega
  have q3:(0:Int)≤(j:Int):=by omega
  have q4:(j:Int)<(P.length:Int):=by omega
  have hu2:=(((h2.le m1).le m2).le hM).le hM4
  have hnn:=hu2.nn hjt
  have hat:=hu2.at (P:=Tryz.prog) (T:=32) (fun _=>rfl) tk32 tz32 hjt
  have hF:=(((h3.le m1).le m2).le hM).le hM4 _ (List.getElem_mem hjt)
  have wj:IntKind.i64.wrap ((j:Int)+1)=((j+1:Nat):Int):=succ_i (by omega)
  have htj:=facG_drop s P 0 j hjt
  rw[Nat.zero_add]at htj
  rw[htj,prodI]at hv
  generalize P[j]=x at *
  obtain ⟨x1,x2,y1,y2⟩:=x
  have hat:lookM Tryz.prog 32 M4 (elemP up 2 j)=some (.agg #[x1,x2]):=hat
  have hF:IsF M4 x1 x2 y1 y2:=hF
  have p3:=hF.n.one
  have p4:=hF.d.one
  unfold facE at hv
  have hf:=A12 @rnSt2.eq_1 g1 q3 q4 hnn hat p1 p2 p3 p4 o1 (A7 o2 o3 n2 s2 @frC_ment @frC_kill @hasK_nil);refine wS ?_;refine kN 87 (rRest_ok hF (fun w3 w4 M5 c1 c2 _ _=>sG ?_));all_goals clear hf
  have c1:Mem.le M4 M5:=c1
  have p5:=c2.n.one
  have p6:=c2.d.one
  have f1:=hix M5 (hM4.trans c1)
  have hat5:=lookM_le c1 hat
  cases hb:s.testBit j with
  | true=>
   rw[hb]at hv
   refine Stop.go ?_
   (try with_reducible refine Fz.of ?_);have hf:=A12 f1 @natV.eq_1 q1 q2 q3 q4 hnn hat5 hb p1 p2 (A12 p3 p4 p5 p6 o1 o2 o3 n2 s2 @frC_ment @frC_kill @hasK_nil);refine sF ?_;(repeat' ((first|((with_reducible refine yN ?_);first|refine kS 53 (in_ok s j (by omega) (by omega) ?_)|refine kS 88 (rfmul_ok (hw.le c1) (hF.le c1) (fun v1 v2 M6 g1 g2 g3 _ _=>Stop.mk ?_)))|refine oB ?_|fail)<;>refine sF ?_<;>try with_reducible exact tT))<;>try clear hf
   have g1:Mem.le M5 M6:=g1
   have p7:=g2.one
   have p8:=g3.one
   refine wG (A11 p7 p8 wj o1 o2 o3 n2 s2 @frC_ment @frC_kill @hasK_nil) ?_
   exact ⟨P.length-(j+1),rnSt2 M6 ur up us v1 v2 k (j+1) D,by omega,le_sub ⟨rfl,rfl,rfl,rfl,rfl,rfl,rfl,rfl,trivial⟩ ⟨rfl,rfl,rfl,rfl,trivial⟩ rfl rfl rfl (keepLt0 _),M6,v1,v2,_,_,j+1,rfl,by omega,hM4.trans (c1.trans g1),isF_ofN g2 g3 (mulF_len' _ _ _ _),hv,rfl⟩
  | false=>
   rw[hb]at hv
   refine Stop.go ?_
   (try with_reducible refine Fz.of ?_);have hf:=A12 f1 @natV.eq_1 q1 q2 q3 q4 hnn hat5 hb p1 p2 (A12 p3 p4 p5 p6 o1 o2 o3 n2 s2 @frC_ment @frC_kill @hasK_nil);refine sF ?_;(repeat' ((first|((with_reducible refine yN ?_);first|refine kS 53 (in_ok s j (by omega) (by omega) ?_)|refine kS 88 (rfmul_ok (hw.le c1) c2 (fun v1 v2 M6 g1 g2 g3 _ _=>Stop.mk ?_)))|refine oB ?_|fail)<;>refine sF ?_<;>try with_reducible exact tT))<;>try clear hf
   have g1:Mem.le M5 M6:=g1
   have p7:=g2.one
   have p8:=g3.one
   refine wG (A11 p7 p8 wj o1 o2 o3 n2 s2 @frC_ment @frC_kill @hasK_nil) ?_
   exact ⟨P.length-(j+1),rnSt2 M6 ur up us v1 v2 k (j+1) D,by omega,le_sub ⟨rfl,rfl,rfl,rfl,rfl,rfl,rfl,rfl,trivial⟩ ⟨rfl,rfl,rfl,rfl,trivial⟩ rfl rfl rfl (keepLt0 _),M6,v1,v2,_,_,j+1,rfl,by omega,hM4.trans (c1.trans g1),isF_ofN g2 g3 (mulF_len' _ _ _ _),hv,rfl⟩
 ·rintro z ⟨M3,D,hD,hM2,hDo,hDv,rfl⟩
  have hM:=(m1.trans m2).trans hM2
  refine Fz.flat (k:=11) (n:=S.length) (w:=2) (T:=32) 11 (D.flatMap FR.c) [(8,.ext us),(6,.own 6 0),(3,.own 3 0)] [(6,53,[.ext (.slice none 0 0),.ext (.slice none 0 0),.ext (.slice none 0 0)]),(3,27,[.ext ur])] rfl rfl (by rw[flat_len (z:=2) (f:=FR.c) (fun _=>rfl),hD]) (Nat.zero_le _) ⟨rfl,rfl,rfl,trivial⟩ rfl ⟨rfl,rfl,trivial⟩ rfl (keepLt0 _) (fun j hj _=>absurd hj (Nat.not_lt_zero _)) (fun M4 w hM4 hw _=>?_)
  have hu:IsR M4 2 FR.c w D:=by unfold IsR;rw[hD];exact hw
  have p1:=hu.one
  have hn:=normF_Q hDv
  rw[←hn]at hK
  have hf:=A3 p1 o1 o3;refine wS ?_;refine kN 89 (rwhole_ok hu (hDo.le hM4) (by omega) (fun U M5 c1 c2=>sG ?_));all_goals clear hf
  have c1:Mem.le M4 M5:=c1
  have hM4:Mem.le M3 M4:=hM4
  have p2:U.oneCell'=true:=by obtain ⟨_,h,_,_⟩:=c2;exact h.one
  have m5:Mem.le M M5:=hM.trans (hM4.trans c1)
  unfold okB at hK
  by_cases h0:(normF D).1=0
  case neg=>
   rw[if_neg h0]at hK
   have hk:=hK.err m5
   have d0:decide ((normF D).1=0)=false:=decide_eq_false h0
   refine wG (A5 p1 p2 o1 o3 d0) ?_
   exact hk
  rw[if_pos h0]at hK
  have d0:decide ((normF D).1=0)=true:=decide_eq_true h0
  have a6:=((a1.le m2).le hM2).le (hM4.trans c1)
  have hk:=hK ur us U M5 m5 (h1.le m5) a6 c2
  refine wG (A5 p1 p2 o1 o3 d0) ?_
  exact hk
end
theorem IsL.toNat{M:Mem}{u:Value}{l:List Nat}(h:IsL M intV64 u (l.map fun (x:Nat)=>(x:Int))):IsL M natV u l:=by
 unfold IsL at h ⊢
 rw[List.map_map,List.length_map]at h
 exact h
def mapG{α:Type}(f:α→Int×Nat×Nat):List α→Int×List (Nat×Nat)
 | []=>(0,[])
 | x :: r=>if (f x).1=0 then (if (mapG f r).1=0 then (0,(f x).2 :: (mapG f r).2) else ((mapG f r).1,[])) else ((f x).1,[])
theorem mapG_cons{α:Type}(f:α→Int×Nat×Nat)(x:α)(r:List α):mapG f (x :: r)=if (f x).1=0 then (if (mapG f r).1=0 then (0,(f x).2 :: (mapG f r).2) else ((mapG f r).1,[])) else ((f x).1,[]):=by rw[mapG]
structure MapI {α:Type} (M:Mem) (f:α→Int×Nat×Nat) (L:List α) (D:List FR) (ds:List (Nat×Nat)) (i:Nat):Prop where
 len:D.length=i
 ok:okFL M D
 val:D.map prV=ds.map fun q=>(ofN q.1,ofN q.2)
 rest:mapG f L=if (mapG f (L.drop i)).1=0 then (0,ds++(mapG f (L.drop i)).2) else ((mapG f (L.drop i)).1,[])
theorem mapI_start{α:Type}(M:Mem)(f:α→Int×Nat×Nat)(L:List α):MapI M f L [] [] 0:=⟨rfl,fun x hx=>(by cases hx),rfl,by
 rw[List.drop_zero,List.nil_append]
 cases h:mapG f L with
 | mk e q=>
  by_cases h0:e=0
  ·subst h0;rfl
  ·rw[if_neg h0]
   have:∀(L:List α) e q,mapG f L=(e,q)→e≠0→q=[]:=fun L=>by
    cases L with
    | nil=>intro e q h h0;rw[mapG]at h;cases h;exact absurd rfl h0
    | cons x r=>
     intro e q h h0
     rw[mapG_cons]at h
     (repeat' split at h)<;>cases h<;>first|rfl|exact absurd rfl h0
   rw[this L e q h h0]⟩
theorem MapI.step{α:Type}{M M':Mem}{f:α→Int×Nat×Nat}{i:Nat}{L:List α}{D:List FR}{ds:List (Nat×Nat)}(h:MapI M f L D ds i)(hM:Mem.le M M')(hi:i<L.length){v1 v2:Value}(h0:(f L[i]).1=0)
  (hv:IsF M' v1 v2 (ofN (f L[i]).2.1) (ofN (f L[i]).2.2)) :
  MapI M' f L (D++[⟨v1,v2,ofN (f L[i]).2.1,ofN (f L[i]).2.2⟩]) (ds++[(f L[i]).2]) (i+1):=by
 refine ⟨by rw[List.length_append,h.len];rfl,fun x hx=>?_,by rw[List.map_append,List.map_append,h.val];rfl,?_⟩
 ·rcases List.mem_append.1 hx with hx|hx
  ·exact (h.ok x hx).le hM
  ·rw[List.mem_singleton.1 hx];exact hv
 ·have h1:=h.rest
  rw[List.drop_eq_getElem_cons hi,mapG_cons,if_pos h0]at h1
  rw[h1]
  by_cases h2:(mapG f (L.drop (i+1))).1=0
  ·rw[if_pos h2,if_pos h2];simp
  ·rw[if_neg h2,if_neg h2,if_neg h2]
theorem MapI.stop{α:Type}{M:Mem}{f:α→Int×Nat×Nat}{i:Nat}{L:List α}{D:List FR}{ds:List (Nat×Nat)}(h:MapI M f L D ds i)(hi:i<L.length)(h0:(f L[i]).1≠0):mapG f L=((f L[i]).1,[]):=by
 have h1:=h.rest
 rw[List.drop_eq_getElem_cons hi,mapG_cons,if_neg h0,if_neg h0]at h1
 exact h1
theorem MapI.done{α:Type}{M:Mem}{f:α→Int×Nat×Nat}{L:List α}{D:List FR}{ds:List (Nat×Nat)}(h:MapI M f L D ds L.length):mapG f L=(0,ds):=by
 have h1:=h.rest
 rw[List.drop_length,mapG,if_pos rfl,List.append_nil]at h1
 exact h1
def facU(eff:Nat)(fl dt:LP)(s:Nat):LP:=if eff &&& s=0 then fl else dt
def updF(eff:Nat)(fl dt:LP)(z:FR×Nat):Int×Nat×Nat:=mulF z.1.l1 z.1.l2 (facU eff fl dt z.2).1 (facU eff fl dt z.2).2
def updL(L:List FR)(S:List Nat)(eff:Nat)(fl dt:LP):Int×List (Nat×Nat):=mapG (updF eff fl dt) (L.zip S)
def thenN(l:List Int)(S:List Nat)(r:Int×List (Nat×Nat)):BR:=if r.1=0 then okB l S (normQ r.2) else errB r.1
def BelKH(M:Mem)(H:Hp)(K:AV→Hp→Mem→Prop)(r:BR):Prop:=∀ur us uw M',Mem.le M M'→IsL M' intV64 ur r.l→IsL M' natV us r.s→FQ M' uw r.q→K (.ext (.tuple #[.agg #[ur,us,uw],.int .i64 r.e])) H M'
theorem BelKH.err{M M':Mem}{H:Hp}{K:AV→Hp→Mem→Prop}{e:Int}(h:BelKH M H K (errB e))(hM:Mem.le M M'):K (.ext (.tuple #[.agg #[.slice none 0 0,.slice none 0 0,.slice none 0 0],.int .i64 e])) H M':=
 h _ _ _ M' hM (isL_nil _ _ _) (isL_nil _ _ _) (fq_nil _)
section
variable {M:Mem}{K:AV→Hp→Mem→Prop}{ur us uw x1 x2 y1 y2:Value}{l:List Int}{S:List Nat}{L:List FR}{fl dt:LP}
end
def outF(failed:Bool)(a:LP):LP:=if failed then a else (ofN (othF a.1 a.2).1,ofN (othF a.1 a.2).2)
def toN(s:List Int):List Nat:=s.map Int.toNat
def updB(l s:List Int)(L:List FR)(fl dt:LP)(pool:Int)(failed:Bool):BR:=
 if chkB l s L&&noiF fl.1 fl.2 dt.1 dt.2 then (if setB l pool then thenN l (toN s) (updL L (toN s) (effN l pool.toNat) (outF failed fl) (outF failed dt)) else errB 3) else errB 1
theorem toN_hI(l:List Int)(m:Int):toN (hI l m)=setsL l m:=by
 unfold toN hI
 rw[List.map_map]
 exact List.map_id'' (fun x=>rfl) _
structure ChkB (l s:List Int) (L:List FR):Prop where
 cl:chkL l=true
 cn:s.length=L.length
 cs:s=(toN s).map fun (x:Nat)=>(x:Int)
 cb:∀x∈toN s,x<256
theorem hI_ok{l:List Int}(hc:chkL l=true)(m:Int):hI l m=(toN (hI l m)).map (fun (x:Nat)=>(x:Int))∧∀x∈toN (hI l m),x<256:=by
 refine ⟨by rw[toN_hI];rfl,fun x hx=>?_⟩
 rw[toN_hI]at hx
 unfold setsL at hx
 split at hx
 ·unfold hyps hypTo at hx
  have:=List.mem_range.1 (List.mem_filter.1 hx).1
  have h2:2^l.length≤2^8:=Nat.pow_le_pow_right (by decide) (chk_len hc).2
  omega
 ·cases hx
theorem chkB_of{l s:List Int}{L:List FR}(h:chkB l s L=true):ChkB l s L:=by
 unfold chkB at h
 simp only[Bool.and_eq_true,decide_eq_true_eq]at h
 obtain ⟨h1,h2,h3,_⟩:=h
 have hs:∃m,s=hI l m:=by
  unfold chkS at h3
  simp only[Bool.or_eq_true,decide_eq_true_eq]at h3
  rcases h3 with h3|h3
  ·exact ⟨1,h3.symm⟩
  ·exact ⟨2,h3.symm⟩
 obtain ⟨m,hm⟩:=hs
 have:=hI_ok h1 m
 rw[←hm]at this
 exact ⟨h1,h2,this.1,this.2⟩
theorem effG_lt{l:List Int}{p:Nat}(hl:l.length≤8):∀i out rev,i≤8→out<256→effG l p i out rev<256
 | 0,out,_,_,h=>by rw[effG];exact h
 | i+1,out,rev,hi,h=>by
  rw[effG]
  have h2:out ||| 2^i<256:=or_lt8 h (lt_pow8 (by omega))
  (repeat' split)<;>exact effG_lt hl i _ _ (by omega) (by first|exact h|exact h2)
theorem effN_lt{l:List Int}{p:Nat}(hl:chkL l=true):effN l p<256:=effG_lt (chk_len hl).2 _ _ _ (chk_len hl).2 (by decide)
section
variable {M:Mem}{K:AV→Hp→Mem→Prop}{ur us uw x1 x2 y1 y2:Value}{l s:List Int}{L:List FR}{fl dt:LP}
end
theorem facU_out(eff:Nat)(fl dt:LP)(failed:Bool)(s:Nat):facU eff (outF failed fl) (outF failed dt) s=outF failed (facU eff fl dt s):=by
 unfold facU
 split<;>rfl
def chkU(l s:List Int)(L:List FR)(fl dt:LP)(pool:Int):Int:=if chkB l s L&&noiF fl.1 fl.2 dt.1 dt.2 then (if setB l pool then 0 else 3) else 1
section
variable {M:Mem}{K:AV→Hp→Mem→Prop}{ur us uw x1 x2 y1 y2:Value}{l s:List Int}{S:List Nat}{L:List FR}{fl dt:LP}
theorem rchk_ok(pool:Int)(h1:IsL M intV64 ur l)(h2:IsL M intV64 us s)(h3:IsR M 2 FR.c uw L)(h4:okFL M L)(b1:l.length<1000000)(b2:s.length<1000000)(b3:L.length<1000000)
  (hy:IsF M y1 y2 fl.1 fl.2) (hx:IsF M x1 x2 dt.1 dt.2) (hK:∀M',Mem.le M M'→K (.ext (.int .i64 (chkU l s L fl dt pool))) [] M') :
  CallS Tryz.prog 144 [.ext (.agg #[ur,us,uw]),.ext (.agg #[y1,y2,x1,x2]),.ext (.int .i64 pool)] [] M [] K:=by
 refine inlS (cs:=[]) Tryz.mixed Tryz.func144 rfl (by kernel_rfl) 0 rfl rfl ?_
 simp only[Tryz.f144]
 have o1:=h1.one
 have o2:=h2.one
 have o3:=h3.one
 have p1:=hx.n.one
 have p2:=hx.d.one
 have p3:=hy.n.one
 have p4:=hy.d.one
 unfold chkU at hK
 have hf:=A7 o1 o2 o3 p1 p2 p3 p4;refine wS ?_;refine kN 143 (rcheck35_ok h1 h2 h3 h4 b1 b2 b3 (fun M1 m1=>sG ?_));all_goals clear hf
 have m1:Mem.le M M1:=m1
 cases hc:chkB l s L with
 | false=>
  rw[hc]at hK
  have hk:=hK M1 m1
  refine wG (A8 o1 o2 o3 p1 p2 p3 p4 hc) ?_
  exact hk
 | true=>
 rw[hc,Bool.true_and]at hK
 have hf:=A8 o1 o2 o3 p1 p2 p3 p4 hc;refine wH ?_;refine kN 46 (rnoi_ok (hy.le m1) (hx.le m1) (fun M2 m2=>sG ?_));all_goals clear hf
 have m2:Mem.le M1 M2:=m2
 have hM2:Mem.le M M2:=m1.trans m2
 cases hn:noiF fl.1 fl.2 dt.1 dt.2 with
 | false=>
  rw[hn]at hK
  have hk:=hK M2 hM2
  refine wG (A8 o1 o2 o3 p1 p2 p3 p4 hn) ?_
  exact hk
 | true=>
 rw[hn,if_pos rfl]at hK
 have hl:=chk_len (chkB_of hc).cl
 have hk:=hK M2 hM2
 unfold setB at hk
 cases hs:decide (0≤pool∧pool<2^l.length) with
 | false=>
  rw[hs]at hk
  refine Stop.go ?_
  (try with_reducible refine Fz.of ?_);have hf:=A9 o1 o2 o3 p1 p2 p3 p4 hn hs;refine sF ?_;(repeat' ((first|((with_reducible refine yN ?_);refine kS 173 (set_ok ur l pool (h1.le hM2) (by omega) ?_))|refine oB ?_|fail)<;>refine sF ?_<;>try with_reducible exact tT))<;>try clear hf
  exact hk
 | true=>
  rw[hs]at hk
  refine Stop.go ?_
  (try with_reducible refine Fz.of ?_);have hf:=A9 o1 o2 o3 p1 p2 p3 p4 hn hs;refine sF ?_;(repeat' ((first|((with_reducible refine yN ?_);refine kS 173 (set_ok ur l pool (h1.le hM2) (by omega) ?_))|refine oB ?_|fail)<;>refine sF ?_<;>try with_reducible exact tT))<;>try clear hf
  exact hk
theorem bad_ok(p k:Nat)(hp:p<256)(hc:chkL l=true)(h1:IsL M intV64 ur l)(h2:IsL M natV us S)(o3:uw.oneCell'=true)(hk:k<S.length)(b2:S.length<1000000)(hs:S[k]<256)
  (hK:K (.ext (.bool (!decide (effN l p &&& S[k]=0)))) [] M) :
  CallS Tryz.prog 145 [.ext (.agg #[ur,us,uw]),.ext (.int .i64 (p:Int)),.ext (.int .i64 (k:Int))] [] M [] K:=by
 refine inlS (cs:=[]) Tryz.mixed Tryz.func145 rfl (by kernel_rfl) 0 rfl rfl ?_
 simp only[Tryz.f145]
 have o1:=h1.one
 have o2:=h2.one
 have hlt:=effN_lt (p:=p) hc
 have f1:=h2.idx (P:=Tryz.prog) (T:=3) tk3 tz3 (by omega) hk
 generalize S[k]=x at *
 have ba:=bits_and (a:=effN l p) (b:=x) (by omega) (by omega)
 have dq:decide (((effN l p &&& x:Nat):Int)=0)=decide (effN l p &&& x=0):=by
  by_cases h:effN l p &&& x=0
  ·rw[decide_eq_true h,h];rfl
  ·rw[decide_eq_false h,decide_eq_false (by omega)]
 have q1:(0:Int)≤(k:Int):=by omega
 have q2:(k:Int)<(S.length:Int):=by omega
 (try with_reducible refine Fz.of ?_);have hf:=A9 o1 o2 o3 @natV.eq_1 f1 q1 q2 ba dq;refine sF ?_;(repeat' ((first|((with_reducible refine yM ?_);refine kS 24 (alive_ok ur l p h1 hc hp ?_))|((with_reducible refine isE 7 (by decide) ?_);refine dR ((0,[]) :: (1,[]) :: (2,[1]) :: (4,[1]) :: (5,[1]) :: (6,[1,5]) :: (7,[1]) :: (8,[1]) :: (3,[5,8]) :: (rP 9 3 [] [])) (rgL 7 9 []) [] ?_)|refine oB ?_|fail)<;>refine sF ?_<;>try with_reducible exact tT))<;>try clear hf
 exact hK
def rupHp(ur us uw x1 x2 y1 y2:Value):Hp:=[(8,53,[.ext (.slice none 0 0),.ext (.slice none 0 0),.ext (.slice none 0 0)]),(5,34,[.ext y1,.ext y2,.ext x1,.ext x2]),(4,53,[.ext ur,.ext us,.ext uw])]
def rupSt(M:Mem)(ur us uw x1 x2 y1 y2:Value)(p:Nat)(failed:Bool)(k:Nat)(D:List FR):St:={env:=[(12,.ext (.int .i64 (k:Int))),(11,.slo 11 0 k 2),(8,.own 8 0),(5,.own 5 0),(4,.own 4 0),(3,.ext (.bool failed)),(2,.ext (.int .i64 (p:Int)))],hp:=(11,32,frC D) :: rupHp ur us uw x1 x2 y1 y2,M:=M,kb:=0,fx:=[]}
theorem rupdate_ok(pool:Int)(failed:Bool)(h1:IsL M intV64 ur l)(h2:IsL M intV64 us s)(h3:IsR M 2 FR.c uw L)(h4:okFL M L)(b1:l.length<1000000)(b2:s.length<1000000)(b3:L.length<1000000)
  (hy:IsF M y1 y2 fl.1 fl.2) (hx:IsF M x1 x2 dt.1 dt.2) (hK:BelK M K (updB l s L fl dt pool failed)) :
  CallS Tryz.prog 98 [.ext (.agg #[ur,us,uw]),.ext (.agg #[y1,y2,x1,x2]),.ext (.int .i64 pool),.ext (.bool failed)] [] M [] K:=by
 refine inlS (cs:=[17]) Tryz.mixed Tryz.func98 rfl (by kernel_rfl) 0 rfl rfl ?_
 simp only[Tryz.f98]
 have o1:=h1.one
 have o2:=h2.one
 have o3:=h3.one
 have p1:=hx.n.one
 have p2:=hx.d.one
 have p3:=hy.n.one
 have p4:=hy.d.one
 unfold updB at hK
 have hf:=A7 o1 o2 o3 p1 p2 p3 p4;refine wS ?_;refine kN 144 (rchk_ok pool h1 h2 h3 h4 b1 b2 b3 hy hx (fun M1 m1=>sG ?_));all_goals clear hf
 have m1:Mem.le M M1:=m1
 by_cases hc:(chkB l s L&&noiF fl.1 fl.2 dt.1 dt.2)=true
 case neg=>
  have hu:chkU l s L fl dt pool=1:=by unfold chkU;rw[if_neg hc]
  rw[if_neg hc]at hK
  have hk:=BelK.err hK m1
  refine wG (A8 o1 o2 o3 p1 p2 p3 p4 hu) ?_
  exact hk
 rw[if_pos hc]at hK
 by_cases hs:setB l pool=true
 case neg=>
  have hu:chkU l s L fl dt pool=3:=by unfold chkU;rw[if_pos hc,if_neg hs]
  rw[if_neg hs]at hK
  have hk:=BelK.err hK m1
  refine wG (A8 o1 o2 o3 p1 p2 p3 p4 hu) ?_
  exact hk
 have hu:chkU l s L fl dt pool=0:=by unfold chkU;rw[if_pos hc,if_pos hs]
 rw[if_pos hs]at hK
 rw[Bool.and_eq_true]at hc
 have hcb:=chkB_of hc.1
 have hl:=chk_len hcb.cl
 obtain ⟨p,rfl,hp,_⟩:=setB_nat hcb.cl hs
 have hlt:=effN_lt (p:=p) hcb.cl
 rw[Int.toNat_natCast]at hK
 have h2':IsL M natV us (toN s):=by
  have:=h2
  rw[hcb.cs]at this
  exact this.toNat
 have hle:(toN s).length=s.length:=by unfold toN;rw[List.length_map]
 have hSb:=hcb.cb
 have hn:L.length=(toN s).length:=by rw[hle];exact hcb.cn.symm
 generalize toN s=S at *
 clear hle
 have n2:=h2'.len
 have s2:=h2'.sl
 have n3:=h3.len
 have s3:=h3.sl
 rw[hn]at n3
 unfold updL at hK
 have hzl:(L.zip S).length=S.length:=by rw[List.length_zip,hn,Nat.min_self]
 refine wG (A12 o1 o2 o3 p1 p2 p3 p4 n2 s2 n3 s3 hu) ?_
 refine ⟨fun z=>∃M' D ds,Mem.le M1 M'∧MapI M' (updF (effN l p) (outF failed fl) (outF failed dt)) (L.zip S) D ds S.length∧z=rupSt M' ur us uw x1 x2 y1 y2 p failed S.length D,?_,?_⟩
 ·refine wT (A11 o1 o2 o3 p1 p2 p3 p4 n2 s2 n3 s3) ?_
  refine ⟨fun m z=>∃M' D ds k,m=S.length-k∧k≤S.length∧Mem.le M1 M'∧MapI M' (updF (effN l p) (outF failed fl) (outF failed dt)) (L.zip S) D ds k∧z=rupSt M' ur us uw x1 x2 y1 y2 p failed k D,
   ⟨S.length,rupSt M1 ur us uw x1 x2 y1 y2 p failed 0 [],(le_nil 11 11 32 2 rfl (.inl (by simp[awayB,mentE,mentH,mentL,AV.ment,hasK,frC_ment]))).trans (le_sub ⟨rfl,rfl,rfl,rfl,rfl,rfl,rfl,trivial⟩ ⟨rfl,rfl,rfl,rfl,trivial⟩ rfl rfl rfl (keepLt0 _)),⟨M1,[],[],0,by omega,by omega,Mem.le.refl _,mapI_start _ _ _,rfl⟩⟩,?_⟩
  rintro m z ⟨M2,D,ds,k,rfl,hk,hM,hD,rfl⟩
  by_cases hkt:k<S.length
  case neg=>
   obtain rfl:k=S.length:=by omega
   have d1:decide ((S.length:Int)<(S.length:Int))=false:=by simp
   refine wT (A12 @rupSt.eq_1 @rupHp.eq_1 d1 o1 o2 o3 p1 p2 p3 p4 n2 (A6 s2 n3 s3 @frC_ment @frC_kill @hasK_nil)) ?_
   exact ⟨rupSt M2 ur us uw x1 x2 y1 y2 p failed S.length D,le_sub ⟨rfl,rfl,rfl,rfl,rfl,rfl,rfl,trivial⟩ ⟨rfl,rfl,rfl,rfl,trivial⟩ rfl rfl rfl (keepLt0 _),M2,D,ds,hM,hD,rfl⟩
  have d1:decide ((k:Int)<(S.length:Int))=true:=by rw[decide_eq_true_eq];omega
  have q1:(0:Int)≤(k:Int):=by omega
  have q2:(k:Int)<(S.length:Int):=by omega
  have hkL:k<L.length:=by omega
  have hMM:=m1.trans hM
  have hbs:=hSb _ (List.getElem_mem hkt)
  have wk:IntKind.i64.wrap ((k:Int)+1)=((k+1:Nat):Int):=succ_i (by omega)
  have hlen:=frC_len D
  rw[hD.len]at hlen
  have hu2:=h3.le hMM
  have hnn:=hu2.nn hkL
  have hat:=hu2.at (P:=Tryz.prog) (T:=32) (fun _=>rfl) tk32 tz32 hkL
  have hF:=(h4.le hMM) _ (List.getElem_mem hkL)
  have hk':k<(L.zip S).length:=by omega
  obtain ⟨x,hxe⟩:∃x,x=L[k]:=⟨_,rfl⟩
  obtain ⟨c,hce⟩:∃c,c=S[k]:=⟨_,rfl⟩
  have hz:(L.zip S)[k]=(x,c):=by rw[List.getElem_zip,hxe,hce]
  have hstep:=fun (M3:Mem) (v1 v2:Value) (c:Mem.le M2 M3)=>hD.step c hk' (v1:=v1) (v2:=v2)
  have hstop:=hD.stop hk'
  rw[hz]at hstop
  simp only[hz]at hstep
  rw[←hxe]at hat hF
  clear hz hxe
  obtain ⟨v1,v2,w1,w2⟩:=x
  have hat:lookM Tryz.prog 32 M2 (elemP uw 2 k)=some (.agg #[v1,v2]):=hat
  have hF:IsF M2 v1 v2 w1 w2:=hF
  have p5:=hF.n.one
  have p6:=hF.d.one
  have huf:updF (effN l p) (outF failed fl) (outF failed dt) (⟨v1,v2,w1,w2⟩,c)=mulF w1 w2 (outF failed (facU (effN l p) fl dt c)).1 (outF failed (facU (effN l p) fl dt c)).2:=by rw[←facU_out];rfl
  rw[huf]at hstop
  simp only[huf]at hstep
  clear huf
  by_cases hb:effN l p &&& c=0
  case neg=>
   have fu:facU (effN l p) fl dt c=dt:=by unfold facU;rw[if_neg hb]
   rw[fu]at hstop
   simp only[fu]at hstep
   clear fu
   have db:decide (effN l p &&& S[k]=0)=false:=by rw[←hce];exact decide_eq_false hb
   cases failed with
   | true=>
    (try with_reducible refine Fz.of ?_);have hf:=A12 @rupSt.eq_1 @rupHp.eq_1 d1 db q1 q2 hnn hat o1 o2 o3 (A12 p1 p2 p3 p4 p5 p6 n2 s2 n3 s3 @frC_ment (A2 @frC_kill @hasK_nil));refine sF ?_;(repeat' ((first|((with_reducible first|refine yN ?_|refine yM ?_);first|refine kS 145 (bad_ok p k hp hcb.cl (h1.le hMM) (h2'.le hMM) o3 hkt (by omega) (hSb _ (List.getElem_mem hkt)) ?_)|refine kS 88 (rfmul_ok hF (hx.le hMM) (fun r1 r2 M4 c1 c2 c3 _ _=>Stop.mk ?_)))|((with_reducible refine isE 45 (by decide) ?_);refine dR ((0,[]) :: (1,[]) :: (2,[1]) :: (3,[]) :: (4,[]) :: (5,[1,4]) :: (10,[1,4,5]) :: (rP 6 4 [] [(11,[]),(12,[])])) (14 :: (rgL 44 10 [])) [] ?_)|refine oB ?_|fail)<;>refine sF ?_<;>try with_reducible exact tT))<;>try clear hf
    have c1:Mem.le M2 M4:=c1
    have hv:=isF_ofN c2 c3 (mulF_len' w1 w2 dt.1 dt.2)
    have p9:=c2.one
    have p10:=c3.one
    have ap:frC D++[.ext r1,.ext r2]=frC (D++[⟨r1,r2,ofN (mulF w1 w2 dt.1 dt.2).2.1,ofN (mulF w1 w2 dt.1 dt.2).2.2⟩]):=by simp[frC,FR.c]
    refine Stop.go ?_
    by_cases h0:(mulF w1 w2 dt.1 dt.2).1=0
    ·have e2:decide ((mulF w1 w2 dt.1 dt.2).1=0)=true:=decide_eq_true h0
     (try with_reducible refine Fz.of ?_);have hf:=A12 p9 p10 e2 ap hlen wk o1 o2 o3 p1 p2 (A5 p3 p4 @frC_ment @frC_kill @hasK_nil);refine sF ?_;(repeat' ((first|((with_reducible refine isE 45 (by decide) ?_);refine dR ((0,[]) :: (1,[]) :: (2,[1]) :: (3,[]) :: (4,[]) :: (5,[1,4]) :: (10,[1,4,5]) :: (rP 6 4 [] [(11,[]),(12,[])])) (14 :: (rgL 44 10 [])) [] ?_)|refine oB ?_|fail)<;>refine sF ?_<;>try with_reducible exact tT))<;>try clear hf
     exact ⟨S.length-(k+1),rupSt M4 ur us uw x1 x2 y1 y2 p true (k+1) _,by omega,le_sub ⟨rfl,rfl,rfl,rfl,rfl,rfl,rfl,trivial⟩ ⟨rfl,rfl,rfl,rfl,trivial⟩ rfl rfl rfl (keepLt0 _),M4,_,_,k+1,rfl,by omega,hM.trans c1,hstep M4 r1 r2 c1 h0 hv,rfl⟩
    ·have e2:decide ((mulF w1 w2 dt.1 dt.2).1=0)=false:=decide_eq_false h0
     have hq:thenN l S (mapG (updF (effN l p) (outF true fl) (outF true dt)) (L.zip S))=errB (mulF w1 w2 dt.1 dt.2).1:=by
      rw[hstop h0];unfold thenN;exact if_neg h0
     rw[hq]at hK
     have hk:=BelK.err hK (m1.trans (hM.trans c1))
     (try with_reducible refine Fz.of ?_);have hf:=A12 p9 p10 e2 ap hlen wk o1 o2 o3 p1 p2 (A5 p3 p4 @frC_ment @frC_kill @hasK_nil);refine sF ?_;(repeat' ((first|((with_reducible refine isE 45 (by decide) ?_);refine dR ((0,[]) :: (1,[]) :: (2,[1]) :: (3,[]) :: (4,[]) :: (5,[1,4]) :: (10,[1,4,5]) :: (rP 6 4 [] [(11,[]),(12,[])])) (14 :: (rgL 44 10 [])) [] ?_)|refine oB ?_|fail)<;>refine sF ?_<;>try with_reducible exact tT))<;>try clear hf
     exact hk
   | false=>
    (try with_reducible refine Fz.of ?_);have hf:=A12 @rupSt.eq_1 @rupHp.eq_1 d1 db q1 q2 hnn hat o1 o2 o3 (A12 p1 p2 p3 p4 p5 p6 n2 s2 n3 s3 @frC_ment (A2 @frC_kill @hasK_nil));refine sF ?_;(repeat' ((first|((with_reducible refine yN ?_);first|refine kS 145 (bad_ok p k hp hcb.cl (h1.le hMM) (h2'.le hMM) o3 hkt (by omega) (hSb _ (List.getElem_mem hkt)) ?_)|refine kS 87 (rRest_ok (hx.le hMM) (fun z1 z2 M3 e1 e2 _ _=>Stop.mk ?_)))|((with_reducible refine isE 45 (by decide) ?_);refine dR ((0,[]) :: (1,[]) :: (2,[1]) :: (3,[]) :: (4,[]) :: (5,[1,4]) :: (10,[1,4,5]) :: (rP 6 4 [] [(11,[]),(12,[])])) (14 :: (rgL 44 10 [])) [] ?_)|refine oB ?_|fail)<;>refine sF ?_<;>try with_reducible exact tT))<;>try clear hf
    have e1:Mem.le M2 M3:=e1
    have p7:=e2.n.one
    have p8:=e2.d.one
    have hat3:=lookM_le e1 hat
    refine Stop.go ?_
    (try with_reducible refine Fz.of ?_);have hf:=A12 @rupSt.eq_1 @rupHp.eq_1 d1 db q1 q2 hnn hat3 o1 o2 o3 (A12 p1 p2 p3 p4 p7 p8 p5 p6 n2 s2 n3 (A4 s3 @frC_ment @frC_kill @hasK_nil));refine sF ?_;(repeat' ((first|((with_reducible refine yM ?_);refine kS 88 (rfmul_ok (hF.le e1) e2 (fun r1 r2 M4 c1 c2 c3 _ _=>Stop.mk ?_)))|((with_reducible refine isE 45 (by decide) ?_);refine dR ((0,[]) :: (1,[]) :: (2,[1]) :: (3,[]) :: (4,[]) :: (5,[1,4]) :: (10,[1,4,5]) :: (rP 6 4 [] [(11,[]),(12,[])])) (14 :: (rgL 44 10 [])) [] ?_)|refine oB ?_|fail)<;>refine sF ?_<;>try with_reducible exact tT))<;>try clear hf
    have c1:Mem.le M2 M4:=e1.trans c1
    have hv:=isF_ofN c2 c3 (mulF_len' w1 w2 (ofN (othF dt.1 dt.2).1) (ofN (othF dt.1 dt.2).2))
    have p9:=c2.one
    have p10:=c3.one
    have ap:frC D++[.ext r1,.ext r2]=frC (D++[⟨r1,r2,ofN (mulF w1 w2 (ofN (othF dt.1 dt.2).1) (ofN (othF dt.1 dt.2).2)).2.1,ofN (mulF w1 w2 (ofN (othF dt.1 dt.2).1) (ofN (othF dt.1 dt.2).2)).2.2⟩]):=by simp[frC,FR.c]
    refine Stop.go ?_
    by_cases h0:(mulF w1 w2 (ofN (othF dt.1 dt.2).1) (ofN (othF dt.1 dt.2).2)).1=0
    ·have e2:decide ((mulF w1 w2 (ofN (othF dt.1 dt.2).1) (ofN (othF dt.1 dt.2).2)).1=0)=true:=decide_eq_true h0
     (try with_reducible refine Fz.of ?_);have hf:=A12 p9 p10 e2 ap hlen wk o1 o2 o3 p1 p2 (A5 p3 p4 @frC_ment @frC_kill @hasK_nil);refine sF ?_;(repeat' ((first|((with_reducible refine isE 45 (by decide) ?_);refine dR ((0,[]) :: (1,[]) :: (2,[1]) :: (3,[]) :: (4,[]) :: (5,[1,4]) :: (10,[1,4,5]) :: (rP 6 4 [] [(11,[]),(12,[])])) (14 :: (rgL 44 10 [])) [] ?_)|refine oB ?_|fail)<;>refine sF ?_<;>try with_reducible exact tT))<;>try clear hf
     exact ⟨S.length-(k+1),rupSt M4 ur us uw x1 x2 y1 y2 p false (k+1) _,by omega,le_sub ⟨rfl,rfl,rfl,rfl,rfl,rfl,rfl,trivial⟩ ⟨rfl,rfl,rfl,rfl,trivial⟩ rfl rfl rfl (keepLt0 _),M4,_,_,k+1,rfl,by omega,hM.trans c1,hstep M4 r1 r2 c1 h0 hv,rfl⟩
    ·have e2:decide ((mulF w1 w2 (ofN (othF dt.1 dt.2).1) (ofN (othF dt.1 dt.2).2)).1=0)=false:=decide_eq_false h0
     have hq:thenN l S (mapG (updF (effN l p) (outF false fl) (outF false dt)) (L.zip S))=errB (mulF w1 w2 (ofN (othF dt.1 dt.2).1) (ofN (othF dt.1 dt.2).2)).1:=by
      rw[hstop h0];unfold thenN;exact if_neg h0
     rw[hq]at hK
     have hk:=BelK.err hK (m1.trans (hM.trans c1))
     (try with_reducible refine Fz.of ?_);have hf:=A12 p9 p10 e2 ap hlen wk o1 o2 o3 p1 p2 (A5 p3 p4 @frC_ment @frC_kill @hasK_nil);refine sF ?_;(repeat' ((first|((with_reducible refine isE 45 (by decide) ?_);refine dR ((0,[]) :: (1,[]) :: (2,[1]) :: (3,[]) :: (4,[]) :: (5,[1,4]) :: (10,[1,4,5]) :: (rP 6 4 [] [(11,[]),(12,[])])) (14 :: (rgL 44 10 [])) [] ?_)|refine oB ?_|fail)<;>refine sF ?_<;>try with_reducible exact tT))<;>try clear hf
     exact hk
  case pos=>
   have fu:facU (effN l p) fl dt c=fl:=by unfold facU;rw[if_pos hb]
   rw[fu]at hstop
   simp only[fu]at hstep
   clear fu
   have db:decide (effN l p &&& S[k]=0)=true:=by rw[←hce];exact decide_eq_true hb
   cases failed with
   | true=>
    (try with_reducible refine Fz.of ?_);have hf:=A12 @rupSt.eq_1 @rupHp.eq_1 d1 db q1 q2 hnn hat o1 o2 o3 (A12 p1 p2 p3 p4 p5 p6 n2 s2 n3 s3 @frC_ment (A2 @frC_kill @hasK_nil));refine sF ?_;(repeat' ((first|((with_reducible first|refine yN ?_|refine yM ?_);first|refine kS 145 (bad_ok p k hp hcb.cl (h1.le hMM) (h2'.le hMM) o3 hkt (by omega) (hSb _ (List.getElem_mem hkt)) ?_)|refine kS 88 (rfmul_ok hF (hy.le hMM) (fun r1 r2 M4 c1 c2 c3 _ _=>Stop.mk ?_)))|((with_reducible refine isE 45 (by decide) ?_);refine dR ((0,[]) :: (1,[]) :: (2,[1]) :: (3,[]) :: (4,[]) :: (5,[1,4]) :: (10,[1,4,5]) :: (rP 6 4 [] [(11,[]),(12,[])])) (14 :: (rgL 44 10 [])) [] ?_)|refine oB ?_|fail)<;>refine sF ?_<;>try with_reducible exact tT))<;>try clear hf
    have c1:Mem.le M2 M4:=c1
    have hv:=isF_ofN c2 c3 (mulF_len' w1 w2 fl.1 fl.2)
    have p9:=c2.one
    have p10:=c3.one
    have ap:frC D++[.ext r1,.ext r2]=frC (D++[⟨r1,r2,ofN (mulF w1 w2 fl.1 fl.2).2.1,ofN (mulF w1 w2 fl.1 fl.2).2.2⟩]):=by simp[frC,FR.c]
    refine Stop.go ?_
    by_cases h0:(mulF w1 w2 fl.1 fl.2).1=0
    ·have e2:decide ((mulF w1 w2 fl.1 fl.2).1=0)=true:=decide_eq_true h0
     (try with_reducible refine Fz.of ?_);have hf:=A12 p9 p10 e2 ap hlen wk o1 o2 o3 p1 p2 (A5 p3 p4 @frC_ment @frC_kill @hasK_nil);refine sF ?_;(repeat' ((first|((with_reducible refine isE 45 (by decide) ?_);refine dR ((0,[]) :: (1,[]) :: (2,[1]) :: (3,[]) :: (4,[]) :: (5,[1,4]) :: (10,[1,4,5]) :: (rP 6 4 [] [(11,[]),(12,[])])) (14 :: (rgL 44 10 [])) [] ?_)|refine oB ?_|fail)<;>refine sF ?_<;>try with_reducible exact tT))<;>try clear hf
     exact ⟨S.length-(k+1),rupSt M4 ur us uw x1 x2 y1 y2 p true (k+1) _,by omega,le_sub ⟨rfl,rfl,rfl,rfl,rfl,rfl,rfl,trivial⟩ ⟨rfl,rfl,rfl,rfl,trivial⟩ rfl rfl rfl (keepLt0 _),M4,_,_,k+1,rfl,by omega,hM.trans c1,hstep M4 r1 r2 c1 h0 hv,rfl⟩
    ·have e2:decide ((mulF w1 w2 fl.1 fl.2).1=0)=false:=decide_eq_false h0
     have hq:thenN l S (mapG (updF (effN l p) (outF true fl) (outF true dt)) (L.zip S))=errB (mulF w1 w2 fl.1 fl.2).1:=by
      rw[hstop h0];unfold thenN;exact if_neg h0
     rw[hq]at hK
     have hk:=BelK.err hK (m1.trans (hM.trans c1))
     (try with_reducible refine Fz.of ?_);have hf:=A12 p9 p10 e2 ap hlen wk o1 o2 o3 p1 p2 (A5 p3 p4 @frC_ment @frC_kill @hasK_nil);refine sF ?_;(repeat' ((first|((with_reducible refine isE 45 (by decide) ?_);refine dR ((0,[]) :: (1,[]) :: (2,[1]) :: (3,[]) :: (4,[]) :: (5,[1,4]) :: (10,[1,4,5]) :: (rP 6 4 [] [(11,[]),(12,[])])) (14 :: (rgL 44 10 [])) [] ?_)|refine oB ?_|fail)<;>refine sF ?_<;>try with_reducible exact tT))<;>try clear hf
     exact hk
   | false=>
    (try with_reducible refine Fz.of ?_);have hf:=A12 @rupSt.eq_1 @rupHp.eq_1 d1 db q1 q2 hnn hat o1 o2 o3 (A12 p1 p2 p3 p4 p5 p6 n2 s2 n3 s3 @frC_ment (A2 @frC_kill @hasK_nil));refine sF ?_;(repeat' ((first|((with_reducible refine yN ?_);first|refine kS 145 (bad_ok p k hp hcb.cl (h1.le hMM) (h2'.le hMM) o3 hkt (by omega) (hSb _ (List.getElem_mem hkt)) ?_)|refine kS 87 (rRest_ok (hy.le hMM) (fun z1 z2 M3 e1 e2 _ _=>Stop.mk ?_)))|((with_reducible refine isE 45 (by decide) ?_);refine dR ((0,[]) :: (1,[]) :: (2,[1]) :: (3,[]) :: (4,[]) :: (5,[1,4]) :: (10,[1,4,5]) :: (rP 6 4 [] [(11,[]),(12,[])])) (14 :: (rgL 44 10 [])) [] ?_)|refine oB ?_|fail)<;>refine sF ?_<;>try with_reducible exact tT))<;>try clear hf
    have e1:Mem.le M2 M3:=e1
    have p7:=e2.n.one
    have p8:=e2.d.one
    have hat3:=lookM_le e1 hat
    refine Stop.go ?_
    (try with_reducible refine Fz.of ?_);have hf:=A12 @rupSt.eq_1 @rupHp.eq_1 d1 db q1 q2 hnn hat3 o1 o2 o3 (A12 p1 p2 p3 p4 p7 p8 p5 p6 n2 s2 n3 (A4 s3 @frC_ment @frC_kill @hasK_nil));refine sF ?_;(repeat' ((first|((with_reducible refine yM ?_);refine kS 88 (rfmul_ok (hF.le e1) e2 (fun r1 r2 M4 c1 c2 c3 _ _=>Stop.mk ?_)))|((with_reducible refine isE 45 (by decide) ?_);refine dR ((0,[]) :: (1,[]) :: (2,[1]) :: (3,[]) :: (4,[]) :: (5,[1,4]) :: (10,[1,4,5]) :: (rP 6 4 [] [(11,[]),(12,[])])) (14 :: (rgL 44 10 [])) [] ?_)|refine oB ?_|fail)<;>refine sF ?_<;>try with_reducible exact tT))<;>try clear hf
    have c1:Mem.le M2 M4:=e1.trans c1
    have hv:=isF_ofN c2 c3 (mulF_len' w1 w2 (ofN (othF fl.1 fl.2).1) (ofN (othF fl.1 fl.2).2))
    have p9:=c2.one
    have p10:=c3.one
    have ap:frC D++[.ext r1,.ext r2]=frC (D++[⟨r1,r2,ofN (mulF w1 w2 (ofN (othF fl.1 fl.2).1) (ofN (othF fl.1 fl.2).2)).2.1,ofN (mulF w1 w2 (ofN (othF fl.1 fl.2).1) (ofN (othF fl.1 fl.2).2)).2.2⟩]):=by simp[frC,FR.c]
    refine Stop.go ?_
    by_cases h0:(mulF w1 w2 (ofN (othF fl.1 fl.2).1) (ofN (othF fl.1 fl.2).2)).1=0
    ·have e2:decide ((mulF w1 w2 (ofN (othF fl.1 fl.2).1) (ofN (othF fl.1 fl.2).2)).1=0)=true:=decide_eq_true h0
     (try with_reducible refine Fz.of ?_);have hf:=A12 p9 p10 e2 ap hlen wk o1 o2 o3 p1 p2 (A5 p3 p4 @frC_ment @frC_kill @hasK_nil);refine sF ?_;(repeat' ((first|((with_reducible refine isE 45 (by decide) ?_);refine dR ((0,[]) :: (1,[]) :: (2,[1]) :: (3,[]) :: (4,[]) :: (5,[1,4]) :: (10,[1,4,5]) :: (rP 6 4 [] [(11,[]),(12,[])])) (14 :: (rgL 44 10 [])) [] ?_)|refine oB ?_|fail)<;>refine sF ?_<;>try with_reducible exact tT))<;>try clear hf
     exact ⟨S.length-(k+1),rupSt M4 ur us uw x1 x2 y1 y2 p false (k+1) _,by omega,le_sub ⟨rfl,rfl,rfl,rfl,rfl,rfl,rfl,trivial⟩ ⟨rfl,rfl,rfl,rfl,trivial⟩ rfl rfl rfl (keepLt0 _),M4,_,_,k+1,rfl,by omega,hM.trans c1,hstep M4 r1 r2 c1 h0 hv,rfl⟩
    ·have e2:decide ((mulF w1 w2 (ofN (othF fl.1 fl.2).1) (ofN (othF fl.1 fl.2).2)).1=0)=false:=decide_eq_false h0
     have hq:thenN l S (mapG (updF (effN l p) (outF false fl) (outF false dt)) (L.zip S))=errB (mulF w1 w2 (ofN (othF fl.1 fl.2).1) (ofN (othF fl.1 fl.2).2)).1:=by
      rw[hstop h0];unfold thenN;exact if_neg h0
     rw[hq]at hK
     have hk:=BelK.err hK (m1.trans (hM.trans c1))
     (try with_reducible refine Fz.of ?_);have hf:=A12 p9 p10 e2 ap hlen wk o1 o2 o3 p1 p2 (A5 p3 p4 @frC_ment @frC_kill @hasK_nil);refine sF ?_;(repeat' ((first|((with_reducible refine isE 45 (by decide) ?_);refine dR ((0,[]) :: (1,[]) :: (2,[1]) :: (3,[]) :: (4,[]) :: (5,[1,4]) :: (10,[1,4,5]) :: (rP 6 4 [] [(11,[]),(12,[])])) (14 :: (rgL 44 10 [])) [] ?_)|refine oB ?_|fail)<;>refine sF ?_<;>try with_reducible exact tT))<;>try clear hf
     exact hk
 ·rintro z ⟨M3,D,ds,hM,hD,rfl⟩
  rw[←hzl]at hD
  rw[hD.done]at hK
  rw[hzl]at hD
  unfold thenN at hK
  rw[if_pos rfl]at hK
  refine Fz.flat (k:=11) (n:=S.length) (w:=2) (T:=32) 11 (D.flatMap FR.c) [(8,.own 8 0),(5,.own 5 0),(4,.own 4 0)] (rupHp ur us uw x1 x2 y1 y2) rfl rfl (by rw[flat_len (z:=2) (f:=FR.c) (fun _=>rfl),hD.len]) (Nat.zero_le _) ⟨rfl,rfl,rfl,trivial⟩ rfl ⟨rfl,rfl,rfl,trivial⟩ rfl (keepLt0 _) (fun j hj _=>absurd hj (Nat.not_lt_zero _)) (fun M4 w hM4 hw _=>?_)
  have hu:IsR M4 2 FR.c w D:=by unfold IsR;rw[hD.len];exact hw
  have p5:=hu.one
  have hn:=normF_Q hD.val
  rw[←hn]at hK
  have hM4:Mem.le M3 M4:=hM4
  have hf:=A6 @rupSt.eq_1 @rupHp.eq_1 p5 o1 o2 o3;refine wS ?_;refine kN 89 (rwhole_ok hu (hD.ok.le hM4) (by have:=hD.len;omega) (fun U M5 c1 c2=>sG ?_));all_goals clear hf
  have c1:Mem.le M4 M5:=c1
  have p6:U.oneCell'=true:=by obtain ⟨_,h,_,_⟩:=c2;exact h.one
  have m5:Mem.le M M5:=m1.trans (hM.trans (hM4.trans c1))
  unfold okB at hK
  by_cases h0:(normF D).1=0
  case neg=>
   rw[if_neg h0]at hK
   have hk:=BelK.err hK m5
   have d0:decide ((normF D).1=0)=false:=decide_eq_false h0
   refine wG (A6 p5 p6 o1 o2 o3 d0) ?_
   exact hk
  rw[if_pos h0]at hK
  have d0:decide ((normF D).1=0)=true:=decide_eq_true h0
  have hk:=hK ur us U M5 m5 (h1.le m5) (h2'.le m5) c2
  refine wG (A6 p5 p6 o1 o2 o3 d0) ?_
  exact hk
end
theorem wN_pow2(i:Nat):wN i=2^(32*i):=by unfold wN;rw[Nat.pow_mul]
section
variable {M:Mem}{K:AV→Hp→Mem→Prop}{u1 u2 v1 v2:Value}{l1 l2 k1 k2:List Nat}
theorem sameFrac_ok(h1:IsL M u32V u1 l1)(h2:IsL M u32V u2 l2)(k1:IsL M u32V v1 l1)(k2:IsL M u32V v2 l2)(b1:l1.length<1000000000)(b2:l2.length<1000000000)(hK:K (.ext (.bool true)) [] M):CallS Tryz.prog 30 [.ext (.agg #[u1,u2]),.ext (.agg #[v1,v2])] [] M [] K:=by
 refine inlS (cs:=[]) Tryz.mixed Tryz.func30 rfl (by kernel_rfl) 0 rfl rfl ?_
 simp only[Tryz.f30]
 have hf:=A4 h1.one h2.one k1.one k2.one;refine sF ?_;(repeat' ((first|((with_reducible refine yN ?_);first|refine kS 61 (sameNat_ok u1 v1 l1 h1 k1 b1 ?_)|refine kS 61 (sameNat_ok u2 v2 l2 h2 k2 b2 ?_))|refine oB ?_|fail)<;>refine sF ?_<;>try with_reducible exact tT))<;>try clear hf
 exact hK
end
theorem FQ.one{M:Mem}{u:Value}{qs:List (Nat×Nat)}(h:FQ M u qs):u.oneCell'=true:=by obtain ⟨_,h,_,_⟩:=h;exact h.one
structure IsB (M:Mem) (ur us uw:Value) (l:List Int) (s:List Nat) (q:List (Nat×Nat)):Prop where
 l:IsL M intV64 ur l
 s:IsL M natV us s
 q:FQ M uw q
theorem IsB.le{M M':Mem}{ur us uw:Value}{l:List Int}{s:List Nat}{q:List (Nat×Nat)}(h:IsB M ur us uw l s q)(hM:Mem.le M M'):IsB M' ur us uw l s q:=⟨h.l.le hM,h.s.le hM,h.q.le hM⟩
section
variable {M:Mem}{K:AV→Hp→Mem→Prop}{ur us uw vr vs vw:Value}{l:List Int}{s:List Nat}{q:List (Nat×Nat)}
def samSt(M:Mem)(ur us uw vr vs vw:Value)(i:Nat):St:={env:=[(5,.ext (.int .i64 (i:Int))),(3,.own 3 0),(2,.own 2 0)],hp:=[(3,53,[.ext vr,.ext vs,.ext vw]),(2,53,[.ext ur,.ext us,.ext uw])],M:=M,kb:=0,fx:=[]}
theorem same35_ok(h:IsB M ur us uw l s q)(g:IsB M vr vs vw l s q)(b1:l.length<1000000)(b2:s.length<1000000)(b3:q.length<1000000)(hK:K (.ext (.bool true)) [] M) :
  CallS Tryz.prog 31 [.ext (.agg #[ur,us,uw]),.ext (.agg #[vr,vs,vw])] [] M [] K:=by
 obtain ⟨L,h3,h4,hq⟩:=h.q
 obtain ⟨L',g3,g4,gq⟩:=g.q
 have hl:L.length=q.length:=by have:=congrArg List.length hq;simpa using this
 have gl:L'.length=q.length:=by have:=congrArg List.length gq;simpa using this
 refine inlS (cs:=[]) Tryz.mixed Tryz.func31 rfl (by kernel_rfl) 0 rfl rfl ?_
 simp only[Tryz.f31]
 have o1:=h.l.one
 have o2:=h.s.one
 have o3:=h3.one
 have o4:=g.l.one
 have o5:=g.s.one
 have o6:=g3.one
 have n3:=h3.len
 have n6:=g3.len
 have s3:=h3.sl
 have s6:=g3.sl
 rw[hl]at n3
 rw[gl]at n6
 have e1:decide (l=l)=true:=by simp
 have e2:decide ((s.map fun (x:Nat)=>(x:Int))=(s.map fun (x:Nat)=>(x:Int)))=true:=by simp
 have e3:decide ((q.length:Int)=(q.length:Int))=true:=by simp
 have hf:=A12 o1 o2 o3 o4 o5 o6 n3 n6 s3 s6 e1 (A2 e2 e3);refine sF ?_;(repeat' ((first|((with_reducible refine yN ?_);first|refine kS 48 (sameInts_ok ur vr l l h.l g.l (by omega) (by omega) ?_)|refine kS 48 (sameInts_ok us vs _ _ h.s.nat g.s.nat (by rw[List.length_map];omega) (by rw[List.length_map];omega) ?_))|refine oB ?_|fail)<;>refine sF ?_<;>try with_reducible exact tT))<;>try clear hf
 refine ⟨fun m z=>∃i,m=q.length-i∧i≤q.length∧z=samSt M ur us uw vr vs vw i,
  ⟨q.length,samSt M ur us uw vr vs vw 0,le_sub ⟨rfl,rfl,rfl,trivial⟩ ⟨rfl,rfl,trivial⟩ rfl rfl rfl (keepLt0 _),⟨0,by omega,by omega,rfl⟩⟩,?_⟩
 rintro m z ⟨i,rfl,hi,rfl⟩
 by_cases hlt:i<q.length
 case neg=>
  obtain rfl:i=q.length:=by omega
  have d1:decide ((q.length:Int)<(q.length:Int))=false:=by simp
  refine wT (A12 @samSt.eq_1 d1 o1 o2 o3 o4 o5 o6 n3 n6 s3 s6) ?_
  exact hK
 have d1:decide ((i:Int)<(q.length:Int))=true:=by rw[decide_eq_true_eq];omega
 have q1:(0:Int)≤(i:Int):=by omega
 have q2:(i:Int)<(q.length:Int):=by omega
 have wi:IntKind.i64.wrap ((i:Int)+1)=((i+1:Nat):Int):=succ_i (by omega)
 have k1:i<L.length:=by omega
 have k2:i<L'.length:=by omega
 have nn1:=h3.nn k1
 have nn2:=g3.nn k2
 have a1:=h3.at (P:=Tryz.prog) (T:=32) (fun _=>rfl) tk32 tz32 k1
 have a2:=g3.at (P:=Tryz.prog) (T:=32) (fun _=>rfl) tk32 tz32 k2
 have f1:=h4 _ (List.getElem_mem k1)
 have f2:=g4 _ (List.getElem_mem k2)
 have v1:prV L[i]=(ofN q[i].1,ofN q[i].2):=by
  have:=congrArg (fun X=>X[i]?) hq
  simp only[List.getElem?_map,List.getElem?_eq_getElem k1,List.getElem?_eq_getElem hlt,Option.map_some]at this
  exact Option.some.inj this
 have v2:prV L'[i]=(ofN q[i].1,ofN q[i].2):=by
  have:=congrArg (fun X=>X[i]?) gq
  simp only[List.getElem?_map,List.getElem?_eq_getElem k2,List.getElem?_eq_getElem hlt,Option.map_some]at this
  exact Option.some.inj this
 generalize L[i]=X at *
 generalize L'[i]=Y at *
 obtain ⟨x1,x2,y1,y2⟩:=X
 obtain ⟨z1,z2,w1,w2⟩:=Y
 have e:=v1.trans v2.symm
 unfold prV at e
 simp only[Prod.mk.injEq]at e
 obtain ⟨rfl,rfl⟩:=e
 have a1:lookM Tryz.prog 32 M (elemP uw 2 i)=some (.agg #[x1,x2]):=a1
 have a2:lookM Tryz.prog 32 M (elemP vw 2 i)=some (.agg #[z1,z2]):=a2
 have f1:IsF M x1 x2 y1 y2:=f1
 have f2:IsF M z1 z2 y1 y2:=f2
 have p1:=f1.n.one
 have p2:=f1.d.one
 have p3:=f2.n.one
 have p4:=f2.d.one
 have bn:=f1.bn
 have bd:=f1.bd
 have hf:=A12 @samSt.eq_1 d1 q1 q2 wi nn1 nn2 a1 a2 o1 o2 (A12 o3 o4 o5 o6 n3 n6 s3 s6 p1 p2 p3 p4);refine sF ?_;(repeat' ((first|((with_reducible refine yM ?_);refine kS 30 (sameFrac_ok f1.n f1.d f2.n f2.d (by omega) (by omega) ?_))|((with_reducible refine isE 38 (by decide) ?_);refine dR [(0,[]),(1,[]),(2,[1]),(3,[]),(4,[]),(5,[1,4]),(6,[1,4]),(7,[1,4,6]),(8,[1,4]),(9,[1,4]),(10,[]),(11,[])] (rgL 38 10 []) [] ?_)|refine oB ?_|fail)<;>refine sF ?_<;>try with_reducible exact tT))<;>try clear hf
 exact ⟨q.length-(i+1),samSt M ur us uw vr vs vw (i+1),by omega,le_sub ⟨rfl,rfl,rfl,trivial⟩ ⟨rfl,rfl,trivial⟩ rfl rfl rfl (keepLt0 _),i+1,rfl,by omega,rfl⟩
end
section
variable {M:Mem}{K:AV→Hp→Mem→Prop}{u v:Value}{l1 l2:List Nat}
end
section
variable {M:Mem}{K:AV→Hp→Mem→Prop}{u v:Value}{l1 l2:List Nat}
end
section
variable {M:Mem}{K:AV→Hp→Mem→Prop}{u1 u2:Value}{l1 l2:List Nat}
end
section
variable {M:Mem}{K:AV→Hp→Mem→Prop}
end
theorem exF_eq{x y n d:Nat}(h0:0<y)(hd:0<d)(h:x*d=n*y)(hg:Nat.gcd n d=1)(h1:(ofN n).length≤128)(h2:(ofN d).length≤128):exF x y=(0,n,d):=by
 have hdv:d∣y:=(Nat.Coprime.symm hg).dvd_of_dvd_mul_left ⟨x,by rw[←h,Nat.mul_comm]⟩
 obtain ⟨k,rfl⟩:=hdv
 have hx:x=n*k:=by
  refine Nat.eq_of_mul_eq_mul_right hd ?_
  rw[h];grind
 subst hx
 have hk:0<k:=Nat.pos_of_mul_pos_left h0
 have hgk:Nat.gcd (n*k) (d*k)=k:=by rw[Nat.gcd_mul_right,hg,Nat.one_mul]
 unfold exF
 rw[hgk,Nat.mul_div_cancel _ hk,Nat.mul_div_cancel _ hk,if_pos ⟨h1,h2⟩]
theorem mulF_of{n1 d1 n2 d2:Nat}(h1:chkF (ofN n1) (ofN d1)=true)(h2:chkF (ofN n2) (ofN d2)=true):mulF (ofN n1) (ofN d1) (ofN n2) (ofN d2)=exF (n1*n2) (d1*d2):=by
 unfold mulF;rw[h1,h2,Bool.and_self,if_pos rfl,valN_ofN,valN_ofN,valN_ofN,valN_ofN]
theorem addF_of{n1 d1 n2 d2:Nat}(h1:chkF (ofN n1) (ofN d1)=true)(h2:chkF (ofN n2) (ofN d2)=true):addF (ofN n1) (ofN d1) (ofN n2) (ofN d2)=exF (n1*d2+n2*d1) (d1*d2):=by
 unfold addF;rw[h1,h2,Bool.and_self,if_pos rfl,valN_ofN,valN_ofN,valN_ofN,valN_ofN]
theorem divF_of{n1 d1 n2 d2:Nat}(h1:chkF (ofN n1) (ofN d1)=true)(h2:chkF (ofN n2) (ofN d2)=true)(h0:0<n2):divF (ofN n1) (ofN d1) (ofN n2) (ofN d2)=exF (n1*d2) (n2*d1):=by
 unfold divF;rw[h1,h2,Bool.and_self,if_pos rfl,valN_ofN,valN_ofN,valN_ofN,valN_ofN,if_neg (by omega)]
theorem subF_of{n1 d1 n2 d2:Nat}(h1:chkF (ofN n1) (ofN d1)=true)(h2:chkF (ofN n2) (ofN d2)=true)(h0:n2*d1≤n1*d2):subF (ofN n1) (ofN d1) (ofN n2) (ofN d2)=exF (n1*d2-n2*d1) (d1*d2):=by
 unfold subF;rw[h1,h2,Bool.and_self,if_pos rfl,valN_ofN,valN_ofN,valN_ofN,valN_ofN,if_neg (by omega)]
theorem cmpF_of{n1 d1 n2 d2:Nat}(h1:chkF (ofN n1) (ofN d1)=true)(h2:chkF (ofN n2) (ofN d2)=true):cmpF (ofN n1) (ofN d1) (ofN n2) (ofN d2)=cmpN (n1*d2) (n2*d1):=by
 unfold cmpF;rw[h1,h2,Bool.and_self,if_pos rfl,valN_ofN,valN_ofN,valN_ofN,valN_ofN]
theorem cmpN_le{x y:Nat}(h:x≤y):decide (cmpN x y≤0)=true:=by
 rw[decide_eq_true_eq];unfold cmpN
 split
 ·omega
 ·rw[if_pos (by omega)];omega
end Go.Proofs.YtiipiciemgdaeaaGreat.Sx
