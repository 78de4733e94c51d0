/- Part 37 of the texts of this claim: a symbolic executor and contracts of functions. -/
import Derived.Test.YtiipiciemgdaeaaGreatCvTRP2
import Derived.RangeFuncNested
import Derived.RangeFuncBound
import Derived.RangeFuncCalls
import Derived.RangeFuncLeaves
import Derived.RangeFuncBox
import Derived.Shelf.Abstract
import Derived.Shelf.RegionOpen
import Derived.WalkKit
import Derived.OwnWalkIn
import Derived.TacticsInMore
import Derived.LoopNIn
import Derived.LoopIn
import Derived.Maps.AppendAt
import Derived.Stop.RegionWithIn
namespace Go.Proofs.YtiipiciemgdaeaaGreat.Sx
open Go Go.RowKit
set_option linter.unusedVariables false
set_option linter.unusedSimpArgs false
set_option maxRecDepth 100000
set_option maxHeartbeats 8000000
attribute [local congr] fin_congr finG_congr stepG_congr step1_congr runOps_congr brv_congr obl_congr condK_congr LoopK_congr seqK_congr CutK_congr vc_congr DrawK_congr regK_congr CallK_congr AskK_congr newK_congr retC_congr ret1_congr retK_congr outV_congr closeK_congr genR_congr appR_congr finD_congr finGD_congr stepGD_congr stepD_congr CallK0_congr runD_congr okR_congr CallS_congr vcX_congr
section
variable {M:Mem}{K:AV→Hp→Mem→Prop}
def setB(l:List Int)(s:Int):Bool:=decide (0≤s∧s<2^l.length)
def effR(l:List Int)(s:Int):Int×Int:=if chkL l=true then (if setB l s=true then ((effN l s.toNat:Nat),0) else (0,3)) else (0,1)
def itup(x:Int×Int):Value:=.tuple #[.int .i64 x.1,.int .i64 x.2]
theorem setB_nat{l:List Int}{s:Int}(hl:chkL l=true)(h:setB l s=true):∃p:Nat,s=(p:Int)∧p<256∧p<2^l.length:=by
 simp only[setB,decide_eq_true_eq]at h
 simp only[chkL,decide_eq_true_eq]at hl
 obtain ⟨p,rfl⟩:=Int.eq_ofNat_of_zero_le h.1
 have h2:p<2^l.length:=by
  have h3:=h.2
  exact_mod_cast h3
 have h4:2^l.length≤2^8:=Nat.pow_le_pow_right (by decide) hl.2.1
 exact ⟨p,rfl,by omega,h2⟩
theorem chk_len{l:List Int}(hl:chkL l=true):1≤l.length∧l.length≤8:=by
 simp only[chkL,decide_eq_true_eq]at hl;exact ⟨hl.1,hl.2.1⟩
theorem Effective_ok(u:Value)(l:List Int)(s:Int)(hu:IsL M intV64 u l)(hb:l.length<1000000000)(hK:K (.ext (itup (effR l s))) [] M):CallS Tryz.prog 103 [.ext (rngV u),.ext (.int .i64 s)] [] M [] K:=by
 refine inlS (cs:=[]) Tryz.mixed Tryz.func103 rfl (by kernel_rfl) 0 rfl rfl ?_
 simp only[Tryz.f103,rngV]
 cases hc:chkL l
 ·simp only[effR,hc,itup,Bool.false_eq_true,if_false]at hK
  (replace hb0:=true_and True);have hf:=A2 hu.one hc;refine sV ?_;(repeat' ((first|((with_reducible first|refine brv_mk ?_ ?_|refine gsplitD ?_ ?_|refine gsplitG ?_ ?_)<;>intro h<;>(try simp only[Bool.not_eq_true',Bool.not_eq_false']at h)<;>replace hb0:=h)|((with_reducible refine yN ?_);refine kS 115 (pchk_ok u l hu hb ?_))|refine oB ?_|fail)<;>refine sV ?_<;>try with_reducible exact tT))<;>try clear hf
  exact hK
 ·have hlen:=chk_len hc
  cases hs:setB l s
  ·simp only[effR,hc,hs,itup,Bool.false_eq_true,if_false,if_true]at hK
   simp only[setB]at hs
   (replace hb0:=true_and True);have hf:=A3 hu.one hc hs;refine sV ?_;(repeat' ((first|((with_reducible first|refine brv_mk ?_ ?_|refine gsplitD ?_ ?_|refine gsplitG ?_ ?_)<;>intro h<;>(try simp only[Bool.not_eq_true',Bool.not_eq_false']at h)<;>replace hb0:=h)|((with_reducible refine yN ?_);first|refine kS 115 (pchk_ok u l hu hb ?_)|refine kS 150 (isSet_ok u l _ hu (by omega) ?_))|refine oB ?_|fail)<;>refine sV ?_<;>try with_reducible exact tT))<;>try clear hf
   exact hK
  ·obtain ⟨p,rfl,hp,_⟩:=setB_nat hc hs
   simp only[effR,hc,hs,itup,if_true,Int.toNat_natCast]at hK
   simp only[setB]at hs
   (replace hb0:=true_and True);have hf:=A3 hu.one hc hs;refine sV ?_;(repeat' ((first|((with_reducible first|refine brv_mk ?_ ?_|refine gsplitD ?_ ?_|refine gsplitG ?_ ?_)<;>intro h<;>(try simp only[Bool.not_eq_true',Bool.not_eq_false']at h)<;>replace hb0:=h)|((with_reducible refine yN ?_);first|refine kS 115 (pchk_ok u l hu hb ?_)|refine kS 150 (isSet_ok u l _ hu (by omega) ?_)|refine kS 151 (effective_ok u l p hu hc hp ?_))|refine oB ?_|fail)<;>refine sV ?_<;>try with_reducible exact tT))<;>try clear hf
   exact hK
def ones(s:Nat):Nat→Nat
 | 0=>0
 | i+1=>ones s i+(if s.testBit i=true then 1 else 0)
theorem ones_le(s:Nat):∀i,ones s i≤i
 | 0=>Nat.le_refl _
 | i+1=>by have:=ones_le s i;simp only[ones];split<;>omega
def sizeSt(M:Mem)(s n i:Nat):St:={env:=[(4,.ext (.int .i64 (i:Int))),(3,.ext (.int .i64 (n:Int))),(2,.ext (.int .i64 0)),(0,.ext (.int .i64 (s:Int)))],hp:=[],M:=M,kb:=0,fx:=[]}
theorem size_ok(s:Nat)(hs:s<2^63)(hK:K (.ext (.int .i64 ((ones s 8:Nat):Int))) [] M):CallS Tryz.prog 129 [.ext (.int .i64 (s:Int))] [] M [] K:=by
 refine inlS (cs:=[]) Tryz.mixed Tryz.func129 rfl (by kernel_rfl) 0 rfl rfl ?_
 simp only[Tryz.f129]
 (replace hb0:=true_and True);refine sW ?_;(repeat' ((first|((with_reducible first|refine brv_mk ?_ ?_|refine gsplitD ?_ ?_|refine gsplitG ?_ ?_)<;>intro h<;>(try simp only[Bool.not_eq_true',Bool.not_eq_false']at h)<;>replace hb0:=h)|refine oB ?_|fail)<;>refine sW ?_<;>try with_reducible exact tT))
 refine ⟨fun m z=>∃i,i≤8∧m=8-i∧z=sizeSt M s (ones s i) i,⟨8,sizeSt M s 0 0,le_sub ⟨rfl,rfl,rfl,rfl,trivial⟩ trivial rfl rfl rfl (keepLt0 _),⟨0,by omega,rfl,rfl⟩⟩,?_⟩
 rintro m z ⟨i,hi,rfl,rfl⟩
 by_cases h8:i<8
 ·have hd:decide ((i:Int)<8)=true:=by simp;omega
  have hw:IntKind.i64.wrap ((i:Int)+1)=((i+1:Nat):Int):=by rw[wrap_id (by omega) (by omega)];omega
  have:=ones_le s i
  have hw2:IntKind.i64.wrap (((ones s i:Nat):Int)+1)=((ones s i+1:Nat):Int):=by rw[wrap_id (by omega) (by omega)];omega
  cases ht:s.testBit i
  ·have he:ones s (i+1)=ones s i:=by simp[ones,ht]
   (replace hb0:=true_and True);have hf:=A5 @sizeSt.eq_1 @hd hw hw2 ht;refine sV ?_;(repeat' ((first|((with_reducible first|refine brv_mk ?_ ?_|refine gsplitD ?_ ?_|refine gsplitG ?_ ?_)<;>intro h<;>(try simp only[Bool.not_eq_true',Bool.not_eq_false']at h)<;>replace hb0:=h)|((with_reducible refine yN ?_);refine kS 53 (in_ok s i hs (by omega) ?_))|refine oB ?_|fail)<;>refine sV ?_<;>try with_reducible exact tT))<;>try clear hf
   exact ⟨8-(i+1),sizeSt M s (ones s i) (i+1),by omega,le_sub ⟨rfl,rfl,rfl,rfl,trivial⟩ trivial rfl rfl rfl (keepLt0 _),i+1,by omega,rfl,by rw[he];rfl⟩
  ·have he:ones s (i+1)=ones s i+1:=by simp[ones,ht]
   (replace hb0:=true_and True);have hf:=A5 @sizeSt.eq_1 @hd hw hw2 ht;refine sV ?_;(repeat' ((first|((with_reducible first|refine brv_mk ?_ ?_|refine gsplitD ?_ ?_|refine gsplitG ?_ ?_)<;>intro h<;>(try simp only[Bool.not_eq_true',Bool.not_eq_false']at h)<;>replace hb0:=h)|((with_reducible refine yN ?_);refine kS 53 (in_ok s i hs (by omega) ?_))|refine oB ?_|fail)<;>refine sV ?_<;>try with_reducible exact tT))<;>try clear hf
   exact ⟨8-(i+1),sizeSt M s (ones s i+1) (i+1),by omega,le_sub ⟨rfl,rfl,rfl,rfl,trivial⟩ trivial rfl rfl rfl (keepLt0 _),i+1,by omega,rfl,by rw[he];rfl⟩
 ·have hd:decide ((i:Int)<8)=false:=by simp;omega
  have ei:i=8:=by omega
  subst ei
  (replace hb0:=true_and True);have hf:=A2 @sizeSt.eq_1 @hd;refine sV ?_;(repeat' ((first|((with_reducible first|refine brv_mk ?_ ?_|refine gsplitD ?_ ?_|refine gsplitG ?_ ?_)<;>intro h<;>(try simp only[Bool.not_eq_true',Bool.not_eq_false']at h)<;>replace hb0:=h)|refine oB ?_|fail)<;>refine sV ?_<;>try with_reducible exact tT))<;>try clear hf
  exact hK
theorem ones64_ok(x:Nat)(hx:x<256)(hK:K (.ext (.int .i64 ((ones x 8:Nat):Int))) [] M):CallS Tryz.prog 187 [.ext (.int .u64 (x:Int))] [] M [] K:=by
 refine inlS (cs:=[]) Tryz.mixed Tryz.func187 rfl (by kernel_rfl) 0 rfl rfl ?_
 simp only[Tryz.f187]
 (replace hb0:=true_and True);refine sW ?_;(repeat' ((first|((with_reducible first|refine brv_mk ?_ ?_|refine gsplitD ?_ ?_|refine gsplitG ?_ ?_)<;>intro h<;>(try simp only[Bool.not_eq_true',Bool.not_eq_false']at h)<;>replace hb0:=h)|refine oB ?_|fail)<;>refine sW ?_<;>try with_reducible exact tT))
 refine cast (congrArg (fun v=>K (.ext (.int .i64 v)) [] M) ?_) hK
 clear hK
 revert x
 decide +kernel
theorem onesCount_ok(x:Nat)(hx:x<256)(hK:K (.ext (.int .i64 ((ones x 8:Nat):Int))) [] M):CallS Tryz.prog 175 [.ext (.int .u64 (x:Int))] [] M [] K:=by
 refine inlS (cs:=[]) Tryz.mixed Tryz.func175 rfl (by kernel_rfl) 0 rfl rfl ?_
 simp only[Tryz.f175]
 (replace hb0:=true_and True);refine sW ?_;(repeat' ((first|((with_reducible first|refine brv_mk ?_ ?_|refine gsplitD ?_ ?_|refine gsplitG ?_ ?_)<;>intro h<;>(try simp only[Bool.not_eq_true',Bool.not_eq_false']at h)<;>replace hb0:=h)|((with_reducible refine yN ?_);refine kS 187 (ones64_ok x hx ?_))|refine oB ?_|fail)<;>refine sW ?_<;>try with_reducible exact tT))
 exact hK
end
def ivA(a b:Nat):List Nat:=(List.range' a (b-a)).map fun j=>2^(j+1)-2^a
def ivP(a n:Nat):List Nat:=(List.range a).flatMap fun i=>ivA i n
def ivN(n:Nat):List Nat:=ivP n n
theorem ivA_succ{a b:Nat}(h:a≤b):ivA a (b+1)=ivA a b++[2^(b+1)-2^a]:=by
 have h1:b+1-a=(b-a)+1:=by omega
 have h2:a+(b-a)=b:=by omega
 simp[ivA,h1,List.range'_concat,h2]
theorem ivA_start(a:Nat):ivA a a=[]:=by simp[ivA]
theorem ivA_len(a b:Nat):(ivA a b).length=b-a:=by simp[ivA]
theorem ivP_succ(a n:Nat):ivP (a+1) n=ivP a n++ivA a n:=by simp[ivP,List.range_succ]
theorem ivP_len(a n:Nat):(ivP a n).length≤a*n:=by
 induction a with
 | zero=>simp[ivP]
 | succ a ih=>rw[ivP_succ,List.length_append,ivA_len,Nat.succ_mul];omega
section
variable {M:Mem}{K:AV→Hp→Mem→Prop}
def ivSt(M:Mem)(n a m:Nat)(L:List Nat):St:={env:=[(13,.ext (.int .i64 (a:Int))),(12,.ext (.int .i64 (n:Int))),(3,.slo 3 0 m 1),(2,.ext (.slice none 0 0)),(0,.ext (.int .i64 (n:Int)))],hp:=[(3,3,cE natV L)],M:=M,kb:=0,fx:=[]}
def ivSt2(M:Mem)(n a b m:Nat)(L:List Nat):St:={env:=[(5,.ext (.int .i64 (b:Int))),(4,.ext (.int .i64 (a:Int))),(13,.ext (.int .i64 (a:Int))),(12,.ext (.int .i64 (n:Int))),(3,.slo 3 0 m 1),(2,.ext (.slice none 0 0)),(0,.ext (.int .i64 (n:Int)))],hp:=[(3,3,cE natV L)],M:=M,kb:=0,fx:=[]}
def ivI(M:Mem)(n k:Nat)(z:St):Prop:=∃a m,a≤n∧k=n-a∧m=(ivP a n).length∧z=ivSt M n a m (ivP a n)
def ivI2(M:Mem)(n a k:Nat)(z:St):Prop:=∃b m,a≤b∧b≤n∧k=n-b∧m=(ivP a n++ivA a b).length∧z=ivSt2 M n a b m (ivP a n++ivA a b)
theorem intervals_ok(n:Nat)(h1:1≤n)(h8:n≤8)(hK:∀u M',Mem.le M M'→IsL M' natV u (ivN n)→FreshS M u→K (.ext u) [] M'):CallS Tryz.prog 101 [.ext (.int .i64 (n:Int))] [] M [] K:=by
 refine CallS.frzF ?_
 refine inlS (cs:=[]) Tryz.mixed Tryz.func101 rfl (by kernel_rfl) 0 rfl rfl ?_
 simp only[Tryz.f101]
 have g1:decide ((n:Int)<1)=false:=by simp;omega
 have g2:decide (8<(n:Int))=false:=by simp;omega
 (replace hb0:=true_and True);have hf:=A2 g1 g2;refine sV ?_;(repeat' ((first|((with_reducible first|refine brv_mk ?_ ?_|refine gsplitD ?_ ?_|refine gsplitG ?_ ?_)<;>intro h<;>(try simp only[Bool.not_eq_true',Bool.not_eq_false']at h)<;>replace hb0:=h)|((with_reducible refine isE 22 (by decide) ?_);refine dR (rP 0 10 [] []) (rgL 22 8 []) [] ?_)|refine oB ?_|fail)<;>refine sV ?_<;>try with_reducible exact tT))<;>try clear hf
 refine ⟨ivI M n,⟨n,ivSt M n 0 0 [],(le_nil 3 3 3 1 rfl (.inl rfl)).trans (le_sub ⟨rfl,rfl,rfl,rfl,rfl,trivial⟩ ⟨rfl,trivial⟩ rfl rfl rfl (keepLt0 _)),⟨0,0,by omega,by omega,rfl,rfl⟩⟩,?_⟩
 rintro k z ⟨a,m,ha,rfl,hm,rfl⟩
 have hpl:=ivP_len a n
 have hpl2:a*n≤8*8:=Nat.mul_le_mul (by omega) h8
 by_cases hlt:a<n
 ·have d1:decide ((a:Int)<(n:Int))=true:=by simp;omega
  have hwa:IntKind.i64.wrap ((a:Int)+1)=((a+1:Nat):Int):=by rw[wrap_id (by omega) (by omega)];omega
  (replace hb0:=true_and True);have hf:=A2 d1 @ivSt.eq_1;refine sV ?_;(repeat' ((first|((with_reducible first|refine brv_mk ?_ ?_|refine gsplitD ?_ ?_|refine gsplitG ?_ ?_)<;>intro h<;>(try simp only[Bool.not_eq_true',Bool.not_eq_false']at h)<;>replace hb0:=h)|((with_reducible refine isE 22 (by decide) ?_);refine dR (rP 0 10 [] []) (rgL 22 8 []) [] ?_)|refine oB ?_|fail)<;>refine sV ?_<;>try with_reducible exact tT))<;>try clear hf
  refine ⟨ivI2 M n a,⟨n-a,ivSt2 M n a a m (ivP a n),le_sub ⟨rfl,rfl,rfl,rfl,rfl,rfl,rfl,trivial⟩ ⟨rfl,trivial⟩ rfl rfl rfl (keepLt0 _),⟨a,m,by omega,by omega,rfl,by rw[ivA_start,List.append_nil];exact hm,by rw[ivA_start,List.append_nil]⟩⟩,?_⟩
  rintro k2 z ⟨b,m2,hb1,hb2,rfl,hm2,rfl⟩
  have hal:=ivA_len a b
  have hm3:m2≤72:=by rw[hm2,List.length_append];omega
  by_cases hlt2:b<n
  ·have d2:decide ((b:Int)<(n:Int))=true:=by simp;omega
   have hwb:IntKind.i64.wrap ((b:Int)+1)=((b+1:Nat):Int):=by rw[wrap_id (by omega) (by omega)];omega
   have hs1:=shl_one (i:=b+1) (by omega)
   have hs2:=shl_one (i:=a) (by omega)
   have hp1:2^(b+1)≤2^8:=Nat.pow_le_pow_right (by decide) (by omega)
   have hp2:2^a≤2^(b+1):=Nat.pow_le_pow_right (by decide) (by omega)
   have hsub:IntKind.i64.wrap (((2^(b+1):Nat):Int)-((2^a:Nat):Int))=((2^(b+1)-2^a:Nat):Int):=by rw[←Int.ofNat_sub hp2];exact wrap_nat (Nat.lt_of_le_of_lt (Nat.sub_le _ _) (Nat.lt_of_le_of_lt hp1 (by decide)))
   have hlen:(cE natV (ivP a n++ivA a b)).length=m2:=by rw[cE_len];exact hm2.symm
   have hsn:cE natV (ivP a n++ivA a b)++[.ext (.int .i64 ((2^(b+1)-2^a:Nat):Int))]=cE natV (ivP a n++ivA a (b+1)):=by
    rw[ivA_succ hb1,←List.append_assoc]
    exact cE_snoc natV _ (2^(b+1)-2^a)
   have hmt:=cE_ment natV (ivP a n++ivA a b)
   (replace hb0:=true_and True);have hf:=A10 d2 hwb hs1 hs2 hsub hlen hsn hmt @hasK_nil @ivSt2.eq_1;refine sV ?_;(repeat' ((first|((with_reducible first|refine brv_mk ?_ ?_|refine gsplitD ?_ ?_|refine gsplitG ?_ ?_)<;>intro h<;>(try simp only[Bool.not_eq_true',Bool.not_eq_false']at h)<;>replace hb0:=h)|((with_reducible refine isE 22 (by decide) ?_);refine dR (rP 0 10 [] []) (rgL 22 8 []) [] ?_)|refine oB ?_|fail)<;>refine sV ?_<;>try with_reducible exact tT))<;>try clear hf
   exact ⟨n-(b+1),ivSt2 M n a (b+1) (m2+1) (ivP a n++ivA a (b+1)),by omega,le_sub ⟨rfl,rfl,rfl,rfl,rfl,rfl,rfl,trivial⟩ ⟨rfl,trivial⟩ rfl rfl rfl (keepLt0 _),b+1,m2+1,by omega,by omega,rfl,by rw[hm2,ivA_succ hb1,←List.append_assoc,List.length_append (bs:=[_])];rfl,rfl⟩
  ·have d2:decide ((b:Int)<(n:Int))=false:=by simp;omega
   have eb:b=n:=by omega
   subst eb
   rw[←ivP_succ]at hm2
   (replace hb0:=true_and True);have hf:=A3 d2 hwa @ivSt2.eq_1;refine sV ?_;(repeat' ((first|((with_reducible first|refine brv_mk ?_ ?_|refine gsplitD ?_ ?_|refine gsplitG ?_ ?_)<;>intro h<;>(try simp only[Bool.not_eq_true',Bool.not_eq_false']at h)<;>replace hb0:=h)|((with_reducible refine isE 22 (by decide) ?_);refine dR (rP 0 10 [] []) (rgL 22 8 []) [] ?_)|refine oB ?_|fail)<;>refine sV ?_<;>try with_reducible exact tT))<;>try clear hf
   exact ⟨b-(a+1),ivSt M b (a+1) m2 (ivP (a+1) b),by omega,le_sub ⟨rfl,rfl,rfl,rfl,rfl,trivial⟩ ⟨by rw[ivP_succ];rfl,trivial⟩ rfl rfl rfl (keepLt0 _),a+1,m2,by omega,rfl,hm2,rfl⟩
 ·have d1:decide ((a:Int)<(n:Int))=false:=by simp;omega
  have ea:a=n:=by omega
  subst ea
  (replace hb0:=true_and True);have hf:=A3 d1 @ivSt.eq_1 @cE_ment;refine sV ?_;(repeat' ((first|((with_reducible first|refine brv_mk ?_ ?_|refine gsplitD ?_ ?_|refine gsplitG ?_ ?_)<;>intro h<;>(try simp only[Bool.not_eq_true',Bool.not_eq_false']at h)<;>replace hb0:=h)|((with_reducible refine isE 22 (by decide) ?_);refine dR (rP 0 10 [] []) (rgL 22 8 []) [] ?_)|refine oB ?_|fail)<;>refine sV ?_<;>try with_reducible exact tT))<;>try clear hf
  refine FrzF.one ((ivP a a).map natV) rfl (by rw[hm];simp) (fun u M'' hM hs hf=>hK u M'' hM ?_ hf)
  rw[hm]at hs
  exact hs
end
section
variable {M:Mem}{K:AV→Hp→Mem→Prop}
def sameSt(M:Mem)(u1 u2:Value)(i:Nat):St:={env:=[(5,.ext (.int .i64 (i:Int))),(4,.ext (.bool false)),(1,.ext u2),(0,.ext u1)],hp:=[],M:=M,kb:=0,fx:=[]}
theorem sameInts_ok(u1 u2:Value)(l1 l2:List Int)(h1:IsL M intV64 u1 l1)(h2:IsL M intV64 u2 l2)(hb:l1.length<1000000000)(hb2:l2.length<1000000000)(hK:K (.ext (.bool (decide (l1=l2)))) [] M):CallS Tryz.prog 48 [.ext u1,.ext u2] [] M [] K:=by
 refine inlS (cs:=[]) Tryz.mixed Tryz.func48 rfl (by kernel_rfl) 0 rfl rfl ?_
 simp only[Tryz.f48]
 by_cases hl:l1.length=l2.length
 ·have hl2:decide ((l1.length:Int)=(l2.length:Int))=true:=by simp[hl]
  (replace hb0:=true_and True);have hf:=A5 h1.len h1.sl h2.len h2.sl hl2;refine sV ?_;(repeat' ((first|((with_reducible first|refine brv_mk ?_ ?_|refine gsplitD ?_ ?_|refine gsplitG ?_ ?_)<;>intro h<;>(try simp only[Bool.not_eq_true',Bool.not_eq_false']at h)<;>replace hb0:=h)|((with_reducible refine isE 17 (by decide) ?_);refine dR (rP 0 4 [] (rP 4 4 [3] [(8,[])])) (rgL 17 8 []) [] ?_)|refine oB ?_|fail)<;>refine sV ?_<;>try with_reducible exact tT))<;>try clear hf
  refine ⟨fun m z=>∃i,i≤l1.length∧l1.take i=l2.take i∧m=l1.length-i∧z=sameSt M u1 u2 i,⟨l1.length,sameSt M u1 u2 0,le_sub ⟨rfl,rfl,rfl,rfl,trivial⟩ trivial rfl rfl rfl (keepLt0 _),⟨0,by omega,rfl,rfl,rfl⟩⟩,?_⟩
  rintro m z ⟨i,hi,hpre,rfl,rfl⟩
  by_cases hlt:i<l1.length
  ·have hlt2:i<l2.length:=by omega
   have f1:=h1.idx (P:=Tryz.prog) (T:=3) tk3 tz3 (by omega) hlt
   have f2:=h2.idx (P:=Tryz.prog) (T:=3) tk3 tz3 (by omega) hlt2
   (replace hb0:=true_and True);have hf:=A4 f1 f2 @intV64.eq_1 @sameSt.eq_1;refine sV ?_;(repeat' ((first|((with_reducible first|refine brv_mk ?_ ?_|refine gsplitD ?_ ?_|refine gsplitG ?_ ?_)<;>intro h<;>(try simp only[Bool.not_eq_true',Bool.not_eq_false']at h)<;>replace hb0:=h)|((with_reducible refine isE 17 (by decide) ?_);refine dR (rP 0 4 [] (rP 4 4 [3] [(8,[])])) (rgL 17 8 []) [] ?_)|refine oB ?_|fail)<;>refine sV ?_<;>try with_reducible exact tT))<;>try clear hf
   ·have e:decide (l1=l2)=false:=by
     simp only[Bool.not_eq_true',decide_eq_false_iff_not]at h ⊢
     intro e;subst e;exact h rfl
    rw[e]at hK;exact hK
   ·simp only[Bool.not_eq_false',decide_eq_true_eq]at h
    refine ⟨l1.length-(i+1),sameSt M u1 u2 (i+1),by omega,le_sub ⟨rfl,rfl,rfl,rfl,trivial⟩ trivial rfl rfl rfl (keepLt0 _),i+1,by omega,?_,rfl,rfl⟩
    rw[List.take_succ_eq_append_getElem hlt,List.take_succ_eq_append_getElem hlt2,hpre,h]
  ·have f1:=h1.fin hlt
   have ei:i=l1.length:=by omega
   subst ei
   rw[List.take_length,hl,List.take_length]at hpre
   have e:decide (l1=l2)=true:=by simp[hpre]
   rw[e]at hK
   (replace hb0:=true_and True);have hf:=A2 f1 @sameSt.eq_1;refine sV ?_;(repeat' ((first|((with_reducible first|refine brv_mk ?_ ?_|refine gsplitD ?_ ?_|refine gsplitG ?_ ?_)<;>intro h<;>(try simp only[Bool.not_eq_true',Bool.not_eq_false']at h)<;>replace hb0:=h)|((with_reducible refine isE 17 (by decide) ?_);refine dR (rP 0 4 [] (rP 4 4 [3] [(8,[])])) (rgL 17 8 []) [] ?_)|refine oB ?_|fail)<;>refine sV ?_<;>try with_reducible exact tT))<;>try clear hf
   exact hK
 ·have hl2:decide ((l1.length:Int)=(l2.length:Int))=false:=by simp;omega
  have e:decide (l1=l2)=false:=by
   simp only[decide_eq_false_iff_not]
   intro e;subst e;exact hl rfl
  rw[e]at hK
  (replace hb0:=true_and True);have hf:=A5 h1.len h1.sl h2.len h2.sl hl2;refine sV ?_;(repeat' ((first|((with_reducible first|refine brv_mk ?_ ?_|refine gsplitD ?_ ?_|refine gsplitG ?_ ?_)<;>intro h<;>(try simp only[Bool.not_eq_true',Bool.not_eq_false']at h)<;>replace hb0:=h)|((with_reducible refine isE 17 (by decide) ?_);refine dR (rP 0 4 [] (rP 4 4 [3] [(8,[])])) (rgL 17 8 []) [] ?_)|refine oB ?_|fail)<;>refine sV ?_<;>try with_reducible exact tT))<;>try clear hf
  exact hK
end
end Go.Proofs.YtiipiciemgdaeaaGreat.Sx
namespace Go.Proofs.YtiipiciemgdaeaaGreat.Sx
open Go Go.RowKit Go.Shelf
set_option linter.unusedVariables false
set_option linter.unusedSimpArgs false
set_option maxRecDepth 100000
attribute [local go_sem] Oper.semAt_some
theorem CallS.value{P:Program}{f:FuncId}{args:List Value}{v:Value}{M:Mem}{w:World}(h:∀K:AV→Hp→Mem→Prop,K (.ext v) [] M→CallS P f (args.map .ext) [] M [] K)(hM:Sub M w):Calls P f args.toArray w fun e w'=>e=.returned v∧Below w.heap.size w w':=by
 refine (h (fun r H' M'=>r=.ext v∧H'=[]∧M'=M) ⟨rfl,rfl,rfl⟩ (fun _=>none) w args ⟨fun k T cs b hk=>by simp[lkH]at hk,fun k T cs hk=>by simp[lkH]at hk,fun k k' b b' hk=>by simp[lkH]at hk,hM⟩ (isL_ext args)).mono fun e w' hall=>?_
 obtain ⟨r,v',H',M'',ρ',e1,⟨rfl,_,_⟩,hL⟩:=hall
 have hr:r=v:=hL.is
 subst hr
 exact ⟨e1,⟨hL.os,hL.tape,hL.output,hL.size,fun i hi=>hL.block i hi fun j y hj=>by simp[lkH]at hj⟩⟩
def hypP(most s:Nat):Bool:=decide (1≤s)&&decide (ones s 8≤most)
def hypTo(most k:Nat):List Nat:=(List.range k).filter (hypP most)
def hyps(n most:Nat):List Nat:=hypTo most (2^n)
theorem hypTo_hit{most k:Nat}(h:hypP most k=true):hypTo most (k+1)=hypTo most k++[k]:=by simp[hypTo,List.range_succ,h]
theorem hypTo_miss{most k:Nat}(h:hypP most k=false):hypTo most (k+1)=hypTo most k:=by simp[hypTo,List.range_succ,h]
theorem hypTo_len(most k:Nat):(hypTo most k).length≤k:=by
 have:=List.length_filter_le (hypP most) (List.range k)
 rw[List.length_range]at this;exact this
theorem onesCount_calls(x:Nat)(hx:x<256)(w:World):Calls Tryz.prog 175 #[.int .u64 (x:Int)] w fun e w'=>e=.returned (.int .i64 ((ones x 8:Nat):Int))∧Below w.heap.size w w':=
 CallS.value (args:=[.int .u64 (x:Int)]) (M:=fun _=>none) (fun K hK=>onesCount_ok x hx hK) (fun b o h=>by cases h)
structure KpB (Bn Bm:Nat) (W W':World):Prop where
 size:W.heap.size≤W'.heap.size
 n:W'.heap[Bn]? = W.heap[Bn]?
 m:W'.heap[Bm]? = W.heap[Bm]?
theorem KpB.cB{Bn Bm:Nat}{W W':World}(h:KpB Bn Bm W W'):W'.cell? ⟨Bn,0,none⟩=W.cell? ⟨Bn,0,none⟩:=World.cell?_of_block (a:=⟨Bn,0,none⟩) h.n
theorem KpB.cM{Bn Bm:Nat}{W W':World}(h:KpB Bn Bm W W'):W'.cell? ⟨Bm,0,none⟩=W.cell? ⟨Bm,0,none⟩:=World.cell?_of_block (a:=⟨Bm,0,none⟩) h.m
theorem KpB.trans{Bn Bm:Nat}{A B C:World}(h:KpB Bn Bm A B)(k:KpB Bn Bm B C):KpB Bn Bm A C:=⟨Nat.le_trans h.size k.size,k.n.trans h.n,k.m.trans h.m⟩
theorem KpB.put{Bn Bm:Nat}(W:World)(l:Nat)(o':Obj)(h1:Bn<l)(h2:Bm<l):KpB Bn Bm W (W.putObj l o'):=
 have g:=grownBy_putObj' W l o'
 ⟨g.size,World.putObj_heap_other (by omega),World.putObj_heap_other (by omega)⟩
theorem wrap64_nat{n:Nat}(h:n<2^63):Go.RowKit.wrap64 (n:Int)=(n:Int):=by
 unfold Go.RowKit.wrap64
 omega
theorem cellB{B:Nat}{v:Value}{w w1:World}(h:Below (World.drew w).heap.size (World.drew w) w1)(hc:w.cell? ⟨B,0,none⟩=some v):w1.cell? ⟨B,0,none⟩=some v:=by
 have hlt:B<w.heap.size:=by
  obtain ⟨o,ho,_⟩:=cells_of_cell hc
  exact (Array.getElem?_eq_some_iff.1 ho).1
 have:=World.cell?_of_block (w:=World.drew w) (w':=w1) (a:=⟨B,0,none⟩) (h.block B hlt)
 rw[this];exact hc
theorem grownD{w w1:World}(h:Below (World.drew w).heap.size (World.drew w) w1):w.grownBy w1 none:=⟨h.os,h.tape,h.output,h.size,fun k hk _=>h.block k hk⟩
set_option maxHeartbeats 4000000 in
theorem sets1_in(n:Nat)(hn:1≤n)(l Bn Bm N most:Nat)(hN:N≤8)(J Jx:List Nat→World→Prop)
  (hY:∀pre x W,J pre W→pre.length<256→YieldAt Fence.wide (n-1) Tryz.prog l #[.int .i64 ((x:Nat):Int)] W fun e W'=>
   (e=.returned (.bool true)∧J (pre++[x]) W'∧KpB Bn Bm W W')∨(e=.returned (.bool false)∧Jx (pre++[x]) W'))
  (W:World) (hJ:AbidesFrom W.heap.size J) (hBn:W.cell? ⟨Bn,0,none⟩=some (.int .i64 (N:Int))) (hBm:W.cell? ⟨Bm,0,none⟩=some (.int .i64 (most:Int))) (h0:J [] W) :
  CallsIn Fence.wide n Tryz.prog 174 #[.func (.yield l) #[] #[],.pointer (some ⟨Bn,0,none⟩),.pointer (some ⟨Bm,0,none⟩)] W fun e W'=>(∃v,e=.returned v)∧
   ((∃ys,ys=hyps N most∧J ys W')∨(∃pre,True∧Jx pre W')):=by
 obtain ⟨T,hT⟩:∃T:Nat,T=2^N:=⟨_,rfl⟩
 have hT2:T≤256:=by rw[hT];exact Nat.pow_le_pow_right (n:=2) (by decide) hN
 have hT1:1≤T:=by rw[hT];exact Nat.one_le_two_pow
 have hTi:(2:Int)^N=(T:Int):=by rw[hT];simp
 have hyd:hyps N most=hypTo most T:=by rw[hT];rfl
 clear hT
 have hpw:Go.RowKit.wrap64 ((2:Int)^N)=(T:Int):=by rw[hTi];exact wrap64_nat (by omega)
 have hwT:Go.RowKit.wrap64 (T:Int)=(T:Int):=wrap64_nat (by omega)
 have hws:∀s:Nat,s≤T→Go.RowKit.wrap64 ((s:Int)+1)=((s+1:Nat):Int):=fun s h=>wrap64_nat (n:=s+1) (by omega)
 have hsl:∀s:Nat,s<T→decide ((s:Int)<Go.RowKit.wrap64 ((2:Int)^N))=true:=fun s h=>by rw[hpw];simp only[decide_eq_true_eq];omega
 have hsf:∀s:Nat,s=T→decide ((s:Int)<Go.RowKit.wrap64 ((2:Int)^N))=false:=fun s h=>by rw[hpw];simp only[decide_eq_false_iff_not];omega
 have hsm:∀s:Nat,s<T→s<256:=fun s h=>by omega
 have hlen:∀s:Nat,s<T→(hypTo most s).length<256:=fun s h=>by have:=hypTo_len most s;omega
 have hwu:∀s:Nat,s<T→IntKind.u64.wrap (s:Int)=(s:Int):=fun s h=>by rw[IntKind.wrap_u64];omega
 have hph:∀s:Nat,1≤s→ones s 8≤most→hypP most s=true:=fun s h h'=>by simp[hypP,h,h']
 have hpm:∀s:Nat,¬ones s 8≤most→hypP most s=false:=fun s h=>by simp[hypP,h]
 have hms:∀s:Nat,s<T→T-(intOf (.int .i64 ((s+1:Nat):Int))).toNat<T-(intOf (.int .i64 (s:Int))).toNat:=fun s h=>by simp only[intOf,Int.toNat_natCast];omega
 have hgt:∀s:Nat,ones s 8≤most→decide (((ones s 8:Nat):Int)≤(most:Int))=true:=fun s h=>by simp;omega
 have hgf:∀s:Nat,¬ones s 8≤most→decide (((ones s 8:Nat):Int)≤(most:Int))=false:=fun s h=>by simp;omega
 clear hpw hTi hwT
 refine callsIn_of_wp Tryz.func174 rfl trivial ?_ rfl
 simp only[Tryz.ntmps174,List.size_toArray,List.length_cons,List.length_nil,Nat.reduceAdd,Nat.reduceSub,Array.replicate_succ,Array.replicate_zero,List.push_toArray,List.append_toArray,List.nil_append,List.cons_append]
 gi_wp2
 gi_loopw [4] (fun p wr=>∃s:Nat,p=.int .i64 (s:Int)∧1≤s∧s≤T∧wr.cell? ⟨Bn,0,none⟩=some (.int .i64 (N:Int))∧wr.cell? ⟨Bm,0,none⟩=some (.int .i64 (most:Int))∧J (hypTo most s) wr)
  (fun p _=>T-(intOf p).toNat)
 case atStart=>
  exact ⟨1,rfl,Nat.le_refl 1,hT1,hBn,hBm,h0⟩
 case round=>
  obtain ⟨s,rfl,h1,h2,hwB,hwM,hJs⟩:=hrel
  have hws:=hws s h2
  by_cases hlt:s<T
  ·have hlt2:=hsl s hlt
   gi_wp2
   by_cases hc:ones s 8≤most
   ·have hg:=hgt s hc
    refine wpIn_region_any (by kernel_rfl) ?_
    change wpAnyIn _ _ _ _ _ _ _ _ _ (World.drew _)
    refine wpAnyIn_take (i:=0) (v:=?_) rfl rfl (by kernel_rfl) (by kernel_rfl) (by kernel_rfl) (fun _ _ _ h=>h) ⟨Or.inl ⟨by rfl,?_⟩,fun _=>rfl⟩ ?_
    rotate_left
    ·intro w;go_simp;with_reducible rfl
    refine wpAnyIn_take (i:=1) (v:=?_) rfl rfl (by kernel_rfl) (by kernel_rfl) (by kernel_rfl) (fun _ _ _ h=>h) ⟨Or.inl ⟨by rfl,?_⟩,fun _=>rfl⟩ ?_
    rotate_left
    ·intro w;go_simp;with_reducible rfl
    refine wpAnyIn_ready (rs:=[2,3]) (by kernel_rfl) (by simp) ?_
    refine AllReadyIn.cons rfl (fun K hK=>?_) (AllReadyIn.cons rfl (fun K hK=>?_) AllReadyIn.nil)
    ·go_simp
     refine ⟨trivial,?_⟩
     refine (callsIn_wide.2 (onesCount_calls s (hsm s hlt) _)).mono ?_
     rintro e w1 ⟨rfl,hB1⟩
     dsimp only
     refine hK _ _ ?_
     clear hK K
     have cM1:=cellB hB1 hwM
     have cB1:=cellB hB1 hwB
     have hJ1:J (hypTo most s) w1:=hJ _ wr w1 none hJs (grownD hB1) (fun r e=>by cases e)
     have hn1:True:=trivial
     refine wpAnyIn_ready (rs:=[3]) (by kernel_rfl) (by simp) ?_
     refine AllReadyIn.cons rfl (fun K hK=>?_) AllReadyIn.nil
     go_simp
     refine hK _ _ ?_
     clear hK K
     refine wpAnyIn_ready (rs:=[4]) (by kernel_rfl) (by simp) ?_
     refine AllReadyIn.cons rfl (fun K hK=>?_) AllReadyIn.nil
     go_simp
     refine hK _ _ ?_
     clear hK K
     refine wpAnyIn_ready (rs:=[5]) (by kernel_rfl) (by simp) ?_
     refine AllReadyIn.cons rfl (fun K hK=>?_) AllReadyIn.nil
     go_simp
     refine hK _ _ ?_
     clear hK K
     refine wpAnyIn_take (i:=6) (v:=?_) rfl rfl (by kernel_rfl) (by kernel_rfl) (by kernel_rfl) (fun _ _ _ h=>h) ⟨Or.inl ⟨by rfl,?_⟩,fun _=>rfl⟩ ?_
     rotate_left
     ·intro w;go_simp;with_reducible rfl
     refine wpAnyIn_ready (rs:=[7]) (by kernel_rfl) (by simp) ?_
     refine AllReadyIn.cons rfl (fun K hK=>?_) AllReadyIn.nil
     go_simp
     refine hK _ _ ?_
     clear hK K
     obtain ⟨fn,tmps,assign,body,hy,hR⟩:=hY _ s w1 hJ1 (hlen s hlt)
     refine wpAnyIn_ready (rs:=[8]) (by kernel_rfl) (by simp) ?_
     refine AllReadyIn.cons rfl (fun K hK=>?_) AllReadyIn.nil
     go_simp
     refine hR.mono ?_
     rintro e W3 (⟨rfl,hJ3,hk3⟩|⟨rfl,hJx3⟩)
     ·dsimp only
      refine hK _ _ ?_
      clear hK K
      refine wpAnyIn_ready (rs:=[9]) (by kernel_rfl) (by simp) ?_
      refine AllReadyIn.cons rfl (fun K hK=>?_) AllReadyIn.nil
      go_simp
      refine hK _ _ ?_
      clear hK K
      refine wpAnyIn_ready (rs:=[10]) (by kernel_rfl) (by simp) ?_
      refine AllReadyIn.cons rfl (fun K hK=>?_) AllReadyIn.nil
      go_simp
      refine hK _ _ ?_
      clear hK K
      refine wpAnyIn_done (by kernel_rfl) ?_ _
      have cB3:=hk3.cB.trans cB1
      have cM3:=hk3.cM.trans cM1
      rw[←hypTo_hit (hph s h1 hc)]at hJ3
      have m1:=hms s hlt
      clear hsl hsf hsm hlen hgt hgf hph hpm hms hwu hY hJ hyd
      gi_wp2
      exact ⟨⟨s+1,rfl,Nat.le_succ_of_le h1,hlt,cB3,cM3,hJ3⟩,m1⟩
     ·dsimp only
      refine hK _ _ ?_
      clear hK K
      refine wpAnyIn_ready (rs:=[9]) (by kernel_rfl) (by simp) ?_
      refine AllReadyIn.cons rfl (fun K hK=>?_) AllReadyIn.nil
      go_simp
      refine hK _ _ ?_
      clear hK K
      refine wpAnyIn_ready (rs:=[10]) (by kernel_rfl) (by simp) ?_
      refine AllReadyIn.cons rfl (fun K hK=>?_) AllReadyIn.nil
      go_simp
      refine hK _ _ ?_
      clear hK K
      refine wpAnyIn_done (by kernel_rfl) ?_ _
      clear hsl hsf hsm hlen hgt hgf hph hpm hms hwu hY hJ hyd
      gi_wp2
      refine bodyPost_ret (results_none rfl _ _ _) rfl ?_
      exact ⟨⟨_,rfl⟩,.inr ⟨_,trivial,hJx3⟩⟩
    ·go_simp
     refine hK _ _ ?_
     clear hK K
     refine wpAnyIn_ready (rs:=[2]) (by kernel_rfl) (by simp) ?_
     refine AllReadyIn.cons rfl (fun K hK=>?_) AllReadyIn.nil
     go_simp
     refine ⟨trivial,?_⟩
     refine (callsIn_wide.2 (onesCount_calls s (hsm s hlt) _)).mono ?_
     rintro e w1 ⟨rfl,hB1⟩
     dsimp only
     refine hK _ _ ?_
     clear hK K
     have cM1:=cellB hB1 hwM
     have cB1:=cellB hB1 hwB
     have hJ1:J (hypTo most s) w1:=hJ _ wr w1 none hJs (grownD hB1) (fun r e=>by cases e)
     have hn1:True:=trivial
     refine wpAnyIn_ready (rs:=[4]) (by kernel_rfl) (by simp) ?_
     refine AllReadyIn.cons rfl (fun K hK=>?_) AllReadyIn.nil
     go_simp
     refine hK _ _ ?_
     clear hK K
     refine wpAnyIn_ready (rs:=[5]) (by kernel_rfl) (by simp) ?_
     refine AllReadyIn.cons rfl (fun K hK=>?_) AllReadyIn.nil
     go_simp
     refine hK _ _ ?_
     clear hK K
     refine wpAnyIn_take (i:=6) (v:=?_) rfl rfl (by kernel_rfl) (by kernel_rfl) (by kernel_rfl) (fun _ _ _ h=>h) ⟨Or.inl ⟨by rfl,?_⟩,fun _=>rfl⟩ ?_
     rotate_left
     ·intro w;go_simp;with_reducible rfl
     refine wpAnyIn_ready (rs:=[7]) (by kernel_rfl) (by simp) ?_
     refine AllReadyIn.cons rfl (fun K hK=>?_) AllReadyIn.nil
     go_simp
     refine hK _ _ ?_
     clear hK K
     obtain ⟨fn,tmps,assign,body,hy,hR⟩:=hY _ s w1 hJ1 (hlen s hlt)
     refine wpAnyIn_ready (rs:=[8]) (by kernel_rfl) (by simp) ?_
     refine AllReadyIn.cons rfl (fun K hK=>?_) AllReadyIn.nil
     go_simp
     refine hR.mono ?_
     rintro e W3 (⟨rfl,hJ3,hk3⟩|⟨rfl,hJx3⟩)
     ·dsimp only
      refine hK _ _ ?_
      clear hK K
      refine wpAnyIn_ready (rs:=[9]) (by kernel_rfl) (by simp) ?_
      refine AllReadyIn.cons rfl (fun K hK=>?_) AllReadyIn.nil
      go_simp
      refine hK _ _ ?_
      clear hK K
      refine wpAnyIn_ready (rs:=[10]) (by kernel_rfl) (by simp) ?_
      refine AllReadyIn.cons rfl (fun K hK=>?_) AllReadyIn.nil
      go_simp
      refine hK _ _ ?_
      clear hK K
      refine wpAnyIn_done (by kernel_rfl) ?_ _
      have cB3:=hk3.cB.trans cB1
      have cM3:=hk3.cM.trans cM1
      rw[←hypTo_hit (hph s h1 hc)]at hJ3
      have m1:=hms s hlt
      clear hsl hsf hsm hlen hgt hgf hph hpm hms hwu hY hJ hyd
      gi_wp2
      exact ⟨⟨s+1,rfl,Nat.le_succ_of_le h1,hlt,cB3,cM3,hJ3⟩,m1⟩
     ·dsimp only
      refine hK _ _ ?_
      clear hK K
      refine wpAnyIn_ready (rs:=[9]) (by kernel_rfl) (by simp) ?_
      refine AllReadyIn.cons rfl (fun K hK=>?_) AllReadyIn.nil
      go_simp
      refine hK _ _ ?_
      clear hK K
      refine wpAnyIn_ready (rs:=[10]) (by kernel_rfl) (by simp) ?_
      refine AllReadyIn.cons rfl (fun K hK=>?_) AllReadyIn.nil
      go_simp
      refine hK _ _ ?_
      clear hK K
      refine wpAnyIn_done (by kernel_rfl) ?_ _
      clear hsl hsf hsm hlen hgt hgf hph hpm hms hwu hY hJ hyd
      gi_wp2
      refine bodyPost_ret (results_none rfl _ _ _) rfl ?_
      exact ⟨⟨_,rfl⟩,.inr ⟨_,trivial,hJx3⟩⟩
   ·have hg:=hgf s hc
    refine wpIn_region_any (by kernel_rfl) ?_
    change wpAnyIn _ _ _ _ _ _ _ _ _ (World.drew _)
    refine wpAnyIn_take (i:=0) (v:=?_) rfl rfl (by kernel_rfl) (by kernel_rfl) (by kernel_rfl) (fun _ _ _ h=>h) ⟨Or.inl ⟨by rfl,?_⟩,fun _=>rfl⟩ ?_
    rotate_left
    ·intro w;go_simp;with_reducible rfl
    refine wpAnyIn_take (i:=1) (v:=?_) rfl rfl (by kernel_rfl) (by kernel_rfl) (by kernel_rfl) (fun _ _ _ h=>h) ⟨Or.inl ⟨by rfl,?_⟩,fun _=>rfl⟩ ?_
    rotate_left
    ·intro w;go_simp;with_reducible rfl
    refine wpAnyIn_ready (rs:=[2,3]) (by kernel_rfl) (by simp) ?_
    refine AllReadyIn.cons rfl (fun K hK=>?_) (AllReadyIn.cons rfl (fun K hK=>?_) AllReadyIn.nil)
    ·go_simp
     refine ⟨trivial,?_⟩
     refine (callsIn_wide.2 (onesCount_calls s (hsm s hlt) _)).mono ?_
     rintro e w1 ⟨rfl,hB1⟩
     dsimp only
     refine hK _ _ ?_
     clear hK K
     have cM1:=cellB hB1 hwM
     have cB1:=cellB hB1 hwB
     have hJ1:J (hypTo most s) w1:=hJ _ wr w1 none hJs (grownD hB1) (fun r e=>by cases e)
     have hn1:True:=trivial
     refine wpAnyIn_ready (rs:=[3]) (by kernel_rfl) (by simp) ?_
     refine AllReadyIn.cons rfl (fun K hK=>?_) AllReadyIn.nil
     go_simp
     refine hK _ _ ?_
     clear hK K
     refine wpAnyIn_ready (rs:=[4]) (by kernel_rfl) (by simp) ?_
     refine AllReadyIn.cons rfl (fun K hK=>?_) AllReadyIn.nil
     go_simp
     refine hK _ _ ?_
     clear hK K
     refine wpAnyIn_ready (rs:=[5]) (by kernel_rfl) (by simp) ?_
     refine AllReadyIn.cons rfl (fun K hK=>?_) AllReadyIn.nil
     go_simp
     refine hK _ _ ?_
     clear hK K
     refine wpAnyIn_ready (rs:=[6,7]) (by kernel_rfl) (by simp) ?_
     refine AllReadyIn.cons rfl (fun K hK=>?_) (AllReadyIn.cons rfl (fun K hK=>?_) AllReadyIn.nil)
     ·go_simp
      refine hK _ _ ?_
      clear hK K
      refine wpAnyIn_ready (rs:=[7]) (by kernel_rfl) (by simp) ?_
      refine AllReadyIn.cons rfl (fun K hK=>?_) AllReadyIn.nil
      go_simp
      refine hK _ _ ?_
      clear hK K
      refine wpAnyIn_ready (rs:=[8]) (by kernel_rfl) (by simp) ?_
      refine AllReadyIn.cons rfl (fun K hK=>?_) AllReadyIn.nil
      go_simp
      (try refine ⟨fun _ _=>trivial,?_⟩)
      refine hK _ _ ?_
      clear hK K
      refine wpAnyIn_ready (rs:=[9]) (by kernel_rfl) (by simp) ?_
      refine AllReadyIn.cons rfl (fun K hK=>?_) AllReadyIn.nil
      go_simp
      refine hK _ _ ?_
      clear hK K
      refine wpAnyIn_ready (rs:=[10]) (by kernel_rfl) (by simp) ?_
      refine AllReadyIn.cons rfl (fun K hK=>?_) AllReadyIn.nil
      go_simp
      refine hK _ _ ?_
      clear hK K
      refine wpAnyIn_done (by kernel_rfl) ?_ _
      rw[←hypTo_miss (hpm s hc)]at hJ1
      have m1:=hms s hlt
      clear hsl hsf hsm hlen hgt hgf hph hpm hms hwu hY hJ hyd
      gi_wp2
      exact ⟨⟨s+1,rfl,Nat.le_succ_of_le h1,hlt,cB1,cM1,hJ1⟩,m1⟩
     ·go_simp
      refine hK _ _ ?_
      clear hK K
      refine wpAnyIn_ready (rs:=[6]) (by kernel_rfl) (by simp) ?_
      refine AllReadyIn.cons rfl (fun K hK=>?_) AllReadyIn.nil
      go_simp
      refine hK _ _ ?_
      clear hK K
      refine wpAnyIn_ready (rs:=[8]) (by kernel_rfl) (by simp) ?_
      refine AllReadyIn.cons rfl (fun K hK=>?_) AllReadyIn.nil
      go_simp
      (try refine ⟨fun _ _=>trivial,?_⟩)
      refine hK _ _ ?_
      clear hK K
      refine wpAnyIn_ready (rs:=[9]) (by kernel_rfl) (by simp) ?_
      refine AllReadyIn.cons rfl (fun K hK=>?_) AllReadyIn.nil
      go_simp
      refine hK _ _ ?_
      clear hK K
      refine wpAnyIn_ready (rs:=[10]) (by kernel_rfl) (by simp) ?_
      refine AllReadyIn.cons rfl (fun K hK=>?_) AllReadyIn.nil
      go_simp
      refine hK _ _ ?_
      clear hK K
      refine wpAnyIn_done (by kernel_rfl) ?_ _
      rw[←hypTo_miss (hpm s hc)]at hJ1
      have m1:=hms s hlt
      clear hsl hsf hsm hlen hgt hgf hph hpm hms hwu hY hJ hyd
      gi_wp2
      exact ⟨⟨s+1,rfl,Nat.le_succ_of_le h1,hlt,cB1,cM1,hJ1⟩,m1⟩
    ·go_simp
     refine hK _ _ ?_
     clear hK K
     refine wpAnyIn_ready (rs:=[2]) (by kernel_rfl) (by simp) ?_
     refine AllReadyIn.cons rfl (fun K hK=>?_) AllReadyIn.nil
     go_simp
     refine ⟨trivial,?_⟩
     refine (callsIn_wide.2 (onesCount_calls s (hsm s hlt) _)).mono ?_
     rintro e w1 ⟨rfl,hB1⟩
     dsimp only
     refine hK _ _ ?_
     clear hK K
     have cM1:=cellB hB1 hwM
     have cB1:=cellB hB1 hwB
     have hJ1:J (hypTo most s) w1:=hJ _ wr w1 none hJs (grownD hB1) (fun r e=>by cases e)
     have hn1:True:=trivial
     refine wpAnyIn_ready (rs:=[4]) (by kernel_rfl) (by simp) ?_
     refine AllReadyIn.cons rfl (fun K hK=>?_) AllReadyIn.nil
     go_simp
     refine hK _ _ ?_
     clear hK K
     refine wpAnyIn_ready (rs:=[5]) (by kernel_rfl) (by simp) ?_
     refine AllReadyIn.cons rfl (fun K hK=>?_) AllReadyIn.nil
     go_simp
     refine hK _ _ ?_
     clear hK K
     refine wpAnyIn_ready (rs:=[6,7]) (by kernel_rfl) (by simp) ?_
     refine AllReadyIn.cons rfl (fun K hK=>?_) (AllReadyIn.cons rfl (fun K hK=>?_) AllReadyIn.nil)
     ·go_simp
      refine hK _ _ ?_
      clear hK K
      refine wpAnyIn_ready (rs:=[7]) (by kernel_rfl) (by simp) ?_
      refine AllReadyIn.cons rfl (fun K hK=>?_) AllReadyIn.nil
      go_simp
      refine hK _ _ ?_
      clear hK K
      refine wpAnyIn_ready (rs:=[8]) (by kernel_rfl) (by simp) ?_
      refine AllReadyIn.cons rfl (fun K hK=>?_) AllReadyIn.nil
      go_simp
      (try refine ⟨fun _ _=>trivial,?_⟩)
      refine hK _ _ ?_
      clear hK K
      refine wpAnyIn_ready (rs:=[9]) (by kernel_rfl) (by simp) ?_
      refine AllReadyIn.cons rfl (fun K hK=>?_) AllReadyIn.nil
      go_simp
      refine hK _ _ ?_
      clear hK K
      refine wpAnyIn_ready (rs:=[10]) (by kernel_rfl) (by simp) ?_
      refine AllReadyIn.cons rfl (fun K hK=>?_) AllReadyIn.nil
      go_simp
      refine hK _ _ ?_
      clear hK K
      refine wpAnyIn_done (by kernel_rfl) ?_ _
      rw[←hypTo_miss (hpm s hc)]at hJ1
      have m1:=hms s hlt
      clear hsl hsf hsm hlen hgt hgf hph hpm hms hwu hY hJ hyd
      gi_wp2
      exact ⟨⟨s+1,rfl,Nat.le_succ_of_le h1,hlt,cB1,cM1,hJ1⟩,m1⟩
     ·go_simp
      refine hK _ _ ?_
      clear hK K
      refine wpAnyIn_ready (rs:=[6]) (by kernel_rfl) (by simp) ?_
      refine AllReadyIn.cons rfl (fun K hK=>?_) AllReadyIn.nil
      go_simp
      refine hK _ _ ?_
      clear hK K
      refine wpAnyIn_ready (rs:=[8]) (by kernel_rfl) (by simp) ?_
      refine AllReadyIn.cons rfl (fun K hK=>?_) AllReadyIn.nil
      go_simp
      (try refine ⟨fun _ _=>trivial,?_⟩)
      refine hK _ _ ?_
      clear hK K
      refine wpAnyIn_ready (rs:=[9]) (by kernel_rfl) (by simp) ?_
      refine AllReadyIn.cons rfl (fun K hK=>?_) AllReadyIn.nil
      go_simp
      refine hK _ _ ?_
      clear hK K
      refine wpAnyIn_ready (rs:=[10]) (by kernel_rfl) (by simp) ?_
      refine AllReadyIn.cons rfl (fun K hK=>?_) AllReadyIn.nil
      go_simp
      refine hK _ _ ?_
      clear hK K
      refine wpAnyIn_done (by kernel_rfl) ?_ _
      rw[←hypTo_miss (hpm s hc)]at hJ1
      have m1:=hms s hlt
      clear hsl hsf hsm hlen hgt hgf hph hpm hms hwu hY hJ hyd
      gi_wp2
      exact ⟨⟨s+1,rfl,Nat.le_succ_of_le h1,hlt,cB1,cM1,hJ1⟩,m1⟩
  ·have elt:s=T:=Nat.le_antisymm h2 (Nat.le_of_not_lt hlt)
   have hdf:=hsf s elt
   subst elt
   clear hsl hsf hsm hlen hgt hgf hph hpm hms hwu hY hJ
   gi_wp2
   go_end0
   exact ⟨⟨_,rfl⟩,.inl ⟨_,hyd.symm,hJs⟩⟩
attribute [local go_sem] Oper.semAt_some
set_option maxHeartbeats 2000000 in
theorem sets_in(n:Nat)(N most:Int)(w:World):CallsIn Fence.wide n Tryz.prog 149 #[.int .i64 N,.int .i64 most] w fun e w'=>
  e=.returned (.func (.func 174) #[] #[.pointer (some ⟨w.heap.size,0,none⟩),.pointer (some ⟨w.heap.size+1,0,none⟩)])∧w'=(w.alloc (.cells #[.int .i64 N] 3)).alloc (.cells #[.int .i64 most] 3):=by
 refine callsIn_of_wp Tryz.func149 rfl trivial ?_ rfl
 simp only[Tryz.ntmps149,List.size_toArray,List.length_cons,List.length_nil,Nat.reduceAdd,Nat.reduceSub,Array.replicate_succ,Array.replicate_zero,List.push_toArray,List.append_toArray,List.nil_append,List.cons_append]
 gi_wp2
 go_ret
 exact ⟨rfl,rfl⟩
theorem check_calls{M:Mem}{u:Value}{l:List Int}(hu:IsL M intV64 u l)(hl:chkL l=true)(w:World)(hM:Sub M w):Calls Tryz.prog 115 #[.agg #[u]] w fun e w'=>e=.returned (.bool true)∧Below w.heap.size w w':=
 CallS.value (args:=[.agg #[u]]) (M:=M) (fun K hK=>pchk_ok u l hu (by have:=chk_len hl;omega) (by rw[hl];exact hK)) hM
theorem Sub.alloc{M:Mem}{w:World}(h:Sub M w)(o:Obj):Sub M (w.alloc o):=fun b p hb=>by
 have h1:=h b p hb
 exact ((Below.refl w.heap.size w).alloc (Nat.le_refl _) o).block b (Array.getElem?_eq_some_iff.1 h1).1▸h1
theorem cellNew{w w1:World}{v:Value}{t:TypeId}(h:Below (w.alloc (.cells #[v] t)).heap.size (w.alloc (.cells #[v] t)) w1):w1.cell? ⟨w.heap.size,0,none⟩=some v:=
 (h.cell (p:=⟨w.heap.size,0,none⟩) (by simp)).trans (Boxed.new w t v).cell
theorem cellOld{w:World}{B:Nat}{v:Value}(h:w.cell? ⟨B,0,none⟩=some v)(o:Obj):(w.alloc o).cell? ⟨B,0,none⟩=some v:=by
 obtain ⟨p,h1,_⟩:=cells_of_cell h
 rw[World.cell?_of_block (a:=⟨B,0,none⟩) (((Below.refl w.heap.size w).alloc (Nat.le_refl _) o).block B (Array.getElem?_eq_some_iff.1 h1).1)];exact h
theorem ownsRow_base{W W':World}{n m:Nat}{e e':TypeId}{z z' k k':Nat}{v:Value}{xs xs':List Value}(h:W.ownsRow n e z v k xs)(h':W'.ownsRow m e' z' v k' xs'):W.ownsRow m e z v k xs:=by
 refine ⟨h.1,?_⟩
 rcases h.2 with ⟨rfl,h0⟩|⟨g,cap,cur,rfl,_,rest⟩
 ·exact .inl ⟨rfl,h0⟩
 ·rcases h'.2 with ⟨h1,_⟩|⟨g2,cap2,cur2,e2,hb,_⟩
  ·cases h1
  ·cases e2
   exact .inr ⟨g,cap,cur,rfl,hb,rest⟩
theorem ownsRow_weak{W:World}{n m:Nat}{e:TypeId}{z k:Nat}{v:Value}{xs:List Value}(h:W.ownsRow n e z v k xs)(hm:m≤n):W.ownsRow m e z v k xs:=by
 refine ⟨h.1,?_⟩
 rcases h.2 with h0|⟨g,cap,cur,e1,hb,rest⟩
 ·exact .inl h0
 ·exact .inr ⟨g,cap,cur,e1,Nat.le_trans hm hb,rest⟩
theorem KpB.app{W w4:World}{base B Bn Bm:Nat}{e:TypeId}{v v':Value}{k:Nat}{xs:List Value}{tmp:Obj}(hrow:W.ownsRow base e 1 v k xs)(hg:(W.alloc tmp).grownBy w4 v.ownBlock)(h1:Bn<base)(h2:Bm<base)(hb:base≤W.heap.size)(n1:Bn≠B)(n2:Bm≠B):KpB Bn Bm W (w4.setCell ⟨B,0,none⟩ v'):=by
 have hsz:W.heap.size+1≤w4.heap.size:=by have:=hg.size;simpa using this
 have hs:=grownBy_setCell' w4 B v'
 have key:∀x,x<base→x≠B→(w4.setCell ⟨B,0,none⟩ v').heap[x]? = W.heap[x]?:=fun x hx hne=>by
  have a1:=hs.block x (by omega) (fun e=>hne (by cases e;rfl))
  have a2:=hg.block x (by simp;omega) (fun e=>by
   rcases hrow.2 with ⟨rfl,_⟩|⟨g,cap,cur,rfl,hbg,_⟩
   ·simp[Value.ownBlock]at e
   ·simp[Value.ownBlock]at e;omega)
  have a3:=((Below.refl W.heap.size W).alloc (Nat.le_refl _) tmp).block x (by omega)
  rw[a1,a2,a3]
 exact ⟨by have:=hs.size;omega,key Bn h1 n1,key Bm h2 n2⟩
theorem infoInt:(Tryz.prog.info? 3).map (fun i=>(i.zero,i.size,i.bytes))=some (some (.int .i64 0),1,8):=by kernel_rfl
theorem sets_stops(n:Nat)(hn:1≤n)(Bn Bm N most:Nat)(hN:N≤8)(w:World)(hBn:w.cell? ⟨Bn,0,none⟩=some (.int .i64 (N:Int)))(hBm:w.cell? ⟨Bm,0,none⟩=some (.int .i64 (most:Int))) :
  SeqStopsK Fence.wide n Tryz.prog 174 #[.pointer (some ⟨Bn,0,none⟩),.pointer (some ⟨Bm,0,none⟩)] (fun x:Nat=>#[Value.int .i64 (x:Int)]) (KpB Bn Bm) (fun ys=>ys=hyps N most) (fun _=>True) 256 w:=fun l J Jx W hW hJ _ hY h0=>
 have cell:∀B v,w.cell? ⟨B,0,none⟩=some v→W.cell? ⟨B,0,none⟩=some v:=fun B v h=>by
  obtain ⟨o,ho,_⟩:=cells_of_cell h
  rw[World.cell?_of_block (a:=⟨B,0,none⟩) (hW.block B (Array.getElem?_eq_some_iff.1 ho).1)];exact h
 sets1_in n hn l Bn Bm N most hN J Jx hY W hJ (cell _ _ hBn) (cell _ _ hBm) h0
set_option maxHeartbeats 4000000 in
theorem Sets_in(n:Nat)(hn:3≤n){M:Mem}{u:Value}{l:List Int}(hu:IsL M intV64 u l)(hl:chkL l=true)(most:Nat)(hm1:1≤most)(hm2:most≤2)(w:World)(hM:Sub M w) :
  CallsIn Fence.wide n Tryz.prog 102 #[.agg #[u],.int .i64 (most:Int)] w fun e W'=>∃v,e=.returned (.tuple #[v,.int .i64 0])∧W'.ownsRow w.heap.size 3 1 v (hyps l.length most).length ((hyps l.length most).map natV)∧Below w.heap.size w W':=by
 have h1:1≤n:=by omega
 have hlen:=chk_len hl
 obtain ⟨b,off,c,rfl,hc⟩:∃b off c,u=.slice (some ⟨b,off,none⟩) l.length c∧l.length≤c:=by
  rcases SlM.cases hu with ⟨h0,_⟩|⟨b,off,c,h2,h3,_⟩
  ·omega
  ·exact ⟨b,off,c,h2,h3⟩
 obtain ⟨i0,hi,hz0,hz1,hz2⟩:=info_parts infoInt
 have g1:decide ((most:Int)<1)=false:=by simp;omega
 have g2:decide (2<(most:Int))=false:=by simp;omega
 refine callsIn_of_wp_marks Tryz.func102 rfl trivial ?_ rfl
 simp only[Tryz.ntmps102,List.size_toArray,List.length_cons,List.length_nil,Nat.reduceAdd,Nat.reduceSub,Array.replicate_succ,Array.replicate_zero,List.push_toArray,List.append_toArray,List.nil_append,List.cons_append]
 gi_wp2_with (first|(refine ⟨trivial,?_⟩;gi_at_call 115;refine (callsIn_wide.2 (check_calls hu hl _ (hM.alloc _))).mono ?_;rintro e w1 ⟨rfl,hB1⟩;have hbx:=cellOld (cellNew hB1))|(refine ⟨trivial,?_⟩;gi_at_call 149;refine (sets_in (n-1) _ _ _).mono ?_;rintro e w2 ⟨rfl,rfl⟩))
 have hs1:w.heap.size+1≤w1.heap.size:=by have:=hB1.size;simpa using this
 have bO:=((Boxed.new w1 22 (.slice none 0 0)).alloc (.cells #[.int .i64 (l.length:Int)] 3)).alloc (.cells #[.int .i64 (most:Int)] 3)
 have cN:=cellOld (Boxed.new (w1.alloc (.cells #[.slice none 0 0] 22)) 3 (.int .i64 (l.length:Int))).cell (.cells #[.int .i64 (most:Int)] 3)
 have cM:=(Boxed.new ((w1.alloc (.cells #[.slice none 0 0] 22)).alloc (.cells #[.int .i64 (l.length:Int)] 3)) 3 (.int .i64 (most:Int))).cell
 have hB0:Below w.heap.size w (((w1.alloc (.cells #[.slice none 0 0] 22)).alloc (.cells #[.int .i64 (l.length:Int)] 3)).alloc (.cells #[.int .i64 (most:Int)] 3)):=by
  have h2:Below w.heap.size w w1:=((Below.refl w.heap.size w).alloc (Nat.le_refl _) _).trans (hB1.mono (by simp))
  exact ((h2.alloc (by omega) _).alloc (by simp;omega) _).alloc (by simp;omega) _
 have hsz:(((w1.alloc (.cells #[.slice none 0 0] 22)).alloc (.cells #[.int .i64 (l.length:Int)] 3)).alloc (.cells #[.int .i64 (most:Int)] 3)).heap.size=w1.heap.size+3:=by simp
 rw[World.size_alloc]at cN
 rw[World.size_alloc,World.size_alloc]at cM
 generalize hW3:(((w1.alloc (.cells #[.slice none 0 0] 22)).alloc (.cells #[.int .i64 (l.length:Int)] 3)).alloc (.cells #[.int .i64 (most:Int)] 3))=w3 at *
 refine wpIn_rangeFunc_ownG rfl h1 (gf:=174) (lb:=#[.pointer (some ⟨w1.heap.size+1,0,none⟩),.pointer (some ⟨w1.heap.size+1+1,0,none⟩)]) rfl trivial (enters_of Tryz.func174 (by kernel_rfl) rfl)
  (sets_stops (n-1) (by omega) (w1.heap.size+1) (w1.heap.size+1+1) l.length most hlen.2 w3 cN cM) KpB.trans (fun W j o o' h _ _ _=>KpB.put W j o' (by omega) (by omega)) (Below.refl _ _) (fun _=>rfl)
  (fun pre W=>(∃v,Boxed W w1.heap.size 22 v∧W.ownsRow w3.heap.size 3 1 v pre.length (pre.map natV)∧True)∧Below w.heap.size w W∧w3.heap.size≤W.heap.size)
  (fun _ _ _=>False)
  (OwnFrom.and (Own.from (holdsRow_own w3.heap.size w1.heap.size 22 3 1 (fun pre:List Nat=>pre.length) (fun pre=>pre.map natV) (fun _ _=>True)) _) (OwnFrom.and (ownFrom_below (Nat.le_refl _) (by omega)) (fun _ _ _ _ h hg _=>Nat.le_trans h hg.size)))
  (fun _ _ _ _ _ hs _ _=>hs)
  ⟨⟨_,bO,World.ownsRow_nil _ _ _ _,trivial⟩,hB0,Nat.le_refl _⟩
  (fun x=>{tmps:=#[.agg #[.slice (some ⟨b,off,none⟩) l.length c],.int .i64 (most:Int),.pointer (some ⟨w.heap.size,0,none⟩),undef,.slice none 0 0,.int .i64 0,.pointer (some ⟨w1.heap.size,0,none⟩),.int .i64 (x:Int),.bool false,.agg #[.slice (some ⟨b,off,none⟩) l.length c],.bool true,.bool false,.bool false,.int .i64 (most:Int),.bool false,.bool false,.int .i64 (most:Int),.bool false,.bool false,.pointer (some ⟨w.heap.size,0,none⟩),.slice (some ⟨b,off,none⟩) l.length c,.int .i64 (l.length:Int),.int .i64 (most:Int),.func (.func 174) #[] #[.pointer (some ⟨w1.heap.size+1,0,none⟩),.pointer (some ⟨w1.heap.size+1+1,0,none⟩)],.int .i64 (x:Int),undef,undef,undef,undef,undef],defers:=[]}) ?assign ?body ?done ?stop
 case assign=>
  intro l x W K hK
  gi_wp2
  exact hK
 case body=>
  rintro l2 pre x W ⟨⟨v,hv,hrow,_⟩,hB,hsW⟩ hlt
  have hc:=hv.cell
  gi_wp2_with (gi_at_builtin;refine wpListIn_append_own _ rfl _ _ 22 rfl w3.heap.size 3 i0 (.int .i64 0) 1 8 Tryz.underlying22 hi hz0 hz1 hz2 rfl (by decide) _ _ _ rfl (hrow.alloc _) ⟨W.heap.size,0,none⟩ 1 1 [.int .i64 (x:Int)] rfl rfl (cell_one_new _ _ _) (by simp[Value.oneCell']) (by first|omega|(unfold maxLen;omega)) (by first|omega|(unfold maxLen;omega)) (by simp;omega) ?_;intro v' w4 hown' hgrow _;obtain ⟨g',cap',rfl⟩:=ownsRow_succ hown';obtain ⟨hv1,hv2,hr2,hk2,hb2⟩:=hv.appended (n₀:=w.heap.size) (by decide) (ownsRow_weak hrow (by omega)) hB.size (by omega) (ownsRow_weak hown' (by omega)) hgrow;have hc1:=hv1.cell;have hf1:=hv1.frozen)
  refine ⟨hk2.from _,KpB.app hrow hgrow (by omega) (by omega) hsW (by omega) (by omega),⟨_,hv2,?_,trivial⟩,hB.trans hb2,Nat.le_trans hsW (KpB.app (Bn:=w1.heap.size+1) (Bm:=w1.heap.size+1) hrow hgrow (by omega) (by omega) hsW (by omega) (by omega)).size⟩
  have hr3:=ownsRow_base hr2 hown'
  simpa [natV] using hr3
 case done=>
  rintro D ys W hD rfl ⟨⟨v,hv,hrow,_⟩,hB,_⟩ hK
  have hc:=hv.cell
  gi_wp2
  refine ⟨by simp,.inl ⟨_,_,rfl,run_takeDeferred hK,?_⟩⟩
  exact ⟨_,results_tmp2 rfl _ _ _,v,rfl,ownsRow_putObj (ownsRow_weak hrow (by omega)) _ hK rfl,hB.trans (belowK_b (w:=w) (Nat.le_refl _) W D _ _ (by omega) hK rfl rfl)⟩
 case stop=>
  rintro D c pre W _ _ h _
  exact h.elim
theorem SetsP_ok{M:Mem}{K:AV→Hp→Mem→Prop}{u:Value}{l:List Int}(hu:IsL M intV64 u l)(hl:chkL l=true)(most:Nat)(hm1:1≤most)(hm2:most≤2)
  (hK:∀v M',Mem.le M M'→IsL M' natV v (hyps l.length most)→FreshS M v→K (.ext (.tuple #[v,.int .i64 0])) [] M'):CallS Tryz.prog 102 [.ext (rngV u),.ext (.int .i64 (most:Int))] [] M [] K:=by
 intro ρ w us hh he
 obtain ⟨x,r,rfl,h1,y,r2,rfl,h2,h3⟩:=he
 have h1:x=rngV u:=h1
 have h2:y=.int .i64 (most:Int):=h2
 have h3:r2=[]:=h3
 subst h1 h2 h3
 refine (callsIn_wide.1 (Sets_in 3 (by omega) hu hl most hm1 hm2 w hh.sub)).mono fun e w' hall=>?_
 obtain ⟨v,e1,hrow,hB⟩:=hall
 have base:∀(M':Mem),Sub M' w'→Mem.le M M'→(∀b,M' b≠none→M b≠none∨w.heap.size≤b)→IsL M' natV v (hyps l.length most)→FreshS M v→
   ∃u v' H' M'' ρ',e=.returned u∧K v' H' M''∧Left [] [] M ρ ρ' w u v' H' M'' w':=fun M' hs hle hmem hi hf=>
  ⟨_,.ext (.tuple #[v,.int .i64 0]),[],M',ρ,e1,hK v M' hle hi hf,{is:=rfl,heap:=⟨fun k T cs b hk=>by simp[lkH]at hk,fun k T cs hk=>by simp[lkH]at hk,fun k k' b b' hk=>by simp[lkH]at hk,hs⟩,keep:=fun k hk=>by simp[lkH]at hk,same:=fun k _ _=>rfl,ment:=fun k _=>⟨by simp[AV.ment],fun j T cs hj=>by simp[lkH]at hj⟩,fresh:=fun k b hk=>by simp[lkH]at hk,os:=hB.os,tape:=hB.tape,output:=hB.output,size:=hB.size,block:=fun b hb _=>hB.block b hb,le:=hle,mem:=hmem}⟩
 have hsub:Sub M w':=fun b o hb=>by
  have:=hh.sub b o hb
  rw[hB.block b (Array.getElem?_eq_some_iff.1 this).1];exact this
 rcases hrow with ⟨hxl,⟨rfl,h0⟩|⟨g,cap,cur,rfl,hg,hcell,hn,hcap,hcs,hcx⟩⟩
 ·refine base M hsub (Mem.le.refl _) (fun b hb=>.inl hb) ?_ (freshS_nil _ _)
  have:hyps l.length most=[]:=List.eq_nil_of_length_eq_zero h0
  rw[this];exact isL_nil _ _ _
 ·have hMg:M g=none:=by
   cases e:M g with
   | none=>rfl
   | some o=>have:=(Array.getElem?_eq_some_iff.1 (hh.sub g o e)).1;omega
  refine base (Mem.set M g (.cells cur 3 (0,0))) (fun b o hb=>?_) (Mem.le_set hMg) (fun b hb=>?_) ?_ (.inr fun b off n c e=>by cases e;exact hMg)
  ·unfold Mem.set at hb
   split at hb
   ·rename_i e;cases hb;rw[e];exact hcell
   ·exact hsub b o hb
  ·unfold Mem.set at hb
   split at hb
   ·rename_i e;subst e;exact .inr hg
   ·exact .inl hb
  ·refine ⟨rfl,rfl,hn,by simp,?_⟩
   simp only[rowS]
   refine rowM_of (by simp) fun i v hi=>?_
   have hi2:i<(hyps l.length most).length*1:=by have:=(List.getElem?_eq_some_iff.1 hi).1;simpa using this
   rw[←hcx,List.getElem?_take_of_lt hi2]at hi
   simp only[cellM,Mem.set,if_true,Nat.zero_add]
   simpa using hi
end Go.Proofs.YtiipiciemgdaeaaGreat.Sx
namespace Go.Proofs.YtiipiciemgdaeaaGreat.Sx
open Go Go.RowKit
set_option linter.unusedVariables false
set_option linter.unusedSimpArgs false
set_option maxRecDepth 100000
set_option maxHeartbeats 8000000
attribute [local congr] fin_congr finG_congr stepG_congr step1_congr runOps_congr brv_congr obl_congr condK_congr LoopK_congr seqK_congr CutK_congr vc_congr DrawK_congr regK_congr CallK_congr AskK_congr newK_congr retC_congr ret1_congr retK_congr outV_congr closeK_congr genR_congr appR_congr finD_congr finGD_congr stepGD_congr stepD_congr CallK0_congr runD_congr okR_congr CallS_congr vcX_congr
section
variable {M:Mem}{K:AV→Hp→Mem→Prop}
def setsE(l:List Int)(most:Int):Int:=if chkL l=true then (if decide (1≤most∧most≤2)=true then 0 else 3) else 1
def setsL(l:List Int)(most:Int):List Nat:=if setsE l most=0 then hyps l.length most.toNat else []
theorem Sets_ok(u:Value)(l:List Int)(most:Int)(hu:IsL M intV64 u l)(hb:l.length<1000000000)
  (hK:∀v M',Mem.le M M'→IsL M' natV v (setsL l most)→FreshS M v→K (.ext (.tuple #[v,.int .i64 (setsE l most)])) [] M'):CallS Tryz.prog 102 [.ext (rngV u),.ext (.int .i64 most)] [] M [] K:=by
 cases hc:chkL l
 ·have e1:setsE l most=1:=by simp[setsE,hc]
  have e2:setsL l most=[]:=by simp[setsL,e1]
  rw[e1,e2]at hK
  have hK:=hK _ M (Mem.le.refl _) (isL_nil _ _ 0) (freshS_nil _ _)
  refine inlS (cs:=[]) Tryz.mixed Tryz.func102 rfl (by kernel_rfl) 0 rfl rfl ?_
  simp only[Tryz.f102,rngV]
  (replace hb0:=true_and True);have hf:=A2 hu.one hc;refine sV ?_;(repeat' ((first|((with_reducible first|refine brv_mk ?_ ?_|refine gsplitD ?_ ?_|refine gsplitG ?_ ?_)<;>intro h<;>(try simp only[Bool.not_eq_true',Bool.not_eq_false']at h)<;>replace hb0:=h)|((with_reducible refine yN ?_);refine kS 115 (pchk_ok u l hu hb ?_))|refine oB ?_|fail)<;>refine sV ?_<;>try with_reducible exact tT))<;>try clear hf
  exact hK
 ·cases hm:decide (1≤most∧most≤2)
  ·have e1:setsE l most=3:=by simp[setsE,hc,hm]
   have e2:setsL l most=[]:=by simp[setsL,e1]
   rw[e1,e2]at hK
   have hK:=hK _ M (Mem.le.refl _) (isL_nil _ _ 0) (freshS_nil _ _)
   have g:(decide (most<1) || decide (2<most))=true:=by
    simp only[decide_eq_false_iff_not]at hm
    simp only[Bool.or_eq_true,decide_eq_true_eq];omega
   refine inlS (cs:=[]) Tryz.mixed Tryz.func102 rfl (by kernel_rfl) 0 rfl rfl ?_
   simp only[Tryz.f102,rngV]
   (replace hb0:=true_and True);have hf:=A3 hu.one hc g;refine sV ?_;(repeat' ((first|((with_reducible first|refine brv_mk ?_ ?_|refine gsplitD ?_ ?_|refine gsplitG ?_ ?_)<;>intro h<;>(try simp only[Bool.not_eq_true',Bool.not_eq_false']at h)<;>replace hb0:=h)|((with_reducible refine yN ?_);refine kS 115 (pchk_ok u l hu hb ?_))|refine oB ?_|fail)<;>refine sV ?_<;>try with_reducible exact tT))<;>try clear hf
   all_goals exact hK
  ·simp only[decide_eq_true_eq]at hm
   obtain ⟨k,rfl⟩:=Int.eq_ofNat_of_zero_le (show 0≤most by omega)
   have e1:setsE l (k:Int)=0:=by simp only[setsE,hc,if_true];rw[if_pos (by simp;omega)]
   have e2:setsL l (k:Int)=hyps l.length k:=by simp[setsL,e1]
   rw[e1,e2]at hK
   exact SetsP_ok hu hc k (by omega) (by omega) hK
def setSt(M:Mem)(u:Value)(most m s:Nat)(L:List Nat):St:={env:=[(7,.ext (.int .i64 (s:Int))),(6,.slo 6 0 m 1),(5,.ext (.int .i64 0)),(4,.ext (.slice none 0 0)),(2,.own 2 0),(1,.ext (.int .i64 (most:Int)))],hp:=[(6,3,cE natV L),(2,27,[.ext u])],M:=M,kb:=0,fx:=[]}
theorem SetsR_ok(u:Value)(l:List Int)(most:Int)(hu:IsL M intV64 u l)(hb:l.length<1000000000)
  (hK:∀v M',Mem.le M M'→IsL M' natV v (setsL l most)→FreshS M v→K (.ext (.tuple #[v,.int .i64 (setsE l most)])) [] M'):CallS Tryz.prog 85 [.ext (rngV u),.ext (.int .i64 most)] [] M [] K:=by
 cases hc:chkL l
 ·have e1:setsE l most=1:=by simp[setsE,hc]
  have e2:setsL l most=[]:=by simp[setsL,e1]
  rw[e1,e2]at hK
  have hK:=hK _ M (Mem.le.refl _) (isL_nil _ _ 0) (freshS_nil _ _)
  refine inlS (cs:=[]) Tryz.mixed Tryz.func85 rfl (by kernel_rfl) 0 rfl rfl ?_
  simp only[Tryz.f85,rngV]
  (replace hb0:=true_and True);have hf:=A2 hu.one hc;refine sV ?_;(repeat' ((first|((with_reducible first|refine brv_mk ?_ ?_|refine gsplitD ?_ ?_|refine gsplitG ?_ ?_)<;>intro h<;>(try simp only[Bool.not_eq_true',Bool.not_eq_false']at h)<;>replace hb0:=h)|((with_reducible refine yN ?_);refine kS 128 (checkR_ok u l hu hb ?_))|refine oB ?_|fail)<;>refine sV ?_<;>try with_reducible exact tT))<;>try clear hf
  exact hK
 ·cases hm:decide (1≤most∧most≤2)
  ·have e1:setsE l most=3:=by simp[setsE,hc,hm]
   have e2:setsL l most=[]:=by simp[setsL,e1]
   rw[e1,e2]at hK
   have hK:=hK _ M (Mem.le.refl _) (isL_nil _ _ 0) (freshS_nil _ _)
   have g:(decide (most<1) || decide (2<most))=true:=by
    simp only[decide_eq_false_iff_not]at hm
    simp only[Bool.or_eq_true,decide_eq_true_eq];omega
   refine inlS (cs:=[]) Tryz.mixed Tryz.func85 rfl (by kernel_rfl) 0 rfl rfl ?_
   simp only[Tryz.f85,rngV]
   (replace hb0:=true_and True);have hf:=A3 hu.one hc g;refine sV ?_;(repeat' ((first|((with_reducible first|refine brv_mk ?_ ?_|refine gsplitD ?_ ?_|refine gsplitG ?_ ?_)<;>intro h<;>(try simp only[Bool.not_eq_true',Bool.not_eq_false']at h)<;>replace hb0:=h)|((with_reducible refine yN ?_);refine kS 128 (checkR_ok u l hu hb ?_))|refine oB ?_|fail)<;>refine sV ?_<;>try with_reducible exact tT))<;>try clear hf
   all_goals exact hK
  ·simp only[decide_eq_true_eq]at hm
   obtain ⟨k,rfl⟩:=Int.eq_ofNat_of_zero_le (show 0≤most by omega)
   have e1:setsE l (k:Int)=0:=by simp only[setsE,hc,if_true];rw[if_pos (by simp;omega)]
   have e2:setsL l (k:Int)=hyps l.length k:=by simp[setsL,e1]
   rw[e1,e2]at hK
   have hlen:=chk_len hc
   have g1:decide ((k:Int)<1)=false:=by simp;omega
   have g2:decide (2<(k:Int))=false:=by simp;omega
   have hs:=shl_one (i:=l.length) (by omega)
   have hT:2^l.length≤2^8:=Nat.pow_le_pow_right (by decide) hlen.2
   obtain ⟨T,hT'⟩:∃T:Nat,T=2^l.length:=⟨_,rfl⟩
   have hT1:1≤T:=by rw[hT'];exact Nat.one_le_two_pow
   unfold hyps at hK
   rw[←hT']at hs hT hK
   refine CallS.frzF ?_
   refine inlS (cs:=[]) Tryz.mixed Tryz.func85 rfl (by kernel_rfl) 0 rfl rfl ?_
   simp only[Tryz.f85,rngV]
   (replace hb0:=true_and True);have hf:=A4 hu.one hc g1 g2;refine sV ?_;(repeat' ((first|((with_reducible first|refine brv_mk ?_ ?_|refine gsplitD ?_ ?_|refine gsplitG ?_ ?_)<;>intro h<;>(try simp only[Bool.not_eq_true',Bool.not_eq_false']at h)<;>replace hb0:=h)|((with_reducible refine yN ?_);refine kS 128 (checkR_ok u l hu hb ?_))|refine oB ?_|fail)<;>refine sV ?_<;>try with_reducible exact tT))<;>try clear hf
   refine ⟨fun d z=>∃s m,1≤s∧s≤T∧d=T-s∧m=(hypTo k s).length∧z=setSt M u k m s (hypTo k s),⟨T-1,setSt M u k 0 1 [],(le_nil 6 6 3 1 rfl (.inl rfl)).trans (le_sub ⟨rfl,rfl,rfl,rfl,rfl,rfl,trivial⟩ ⟨rfl,rfl,trivial⟩ rfl rfl rfl (keepLt0 _)),⟨1,0,by omega,by omega,rfl,rfl,rfl⟩⟩,?_⟩
   rintro d z ⟨s,m,h1,h2,rfl,hm2,rfl⟩
   have hml:=hypTo_len k s
   by_cases hlt:s<T
   ·have d1:decide ((s:Int)<(T:Int))=true:=by simp;omega
    have hw:IntKind.i64.wrap ((s:Int)+1)=((s+1:Nat):Int):=by rw[wrap_id (by omega) (by omega)];omega
    have hlen2:(cE natV (hypTo k s)).length=m:=by rw[cE_len];exact hm2.symm
    cases hh:hypP k s
    ·have hd:decide (((ones s 8:Nat):Int)≤(k:Int))=false:=by
      simp only[hypP,Bool.and_eq_false_iff,decide_eq_false_iff_not]at hh ⊢;omega
     (replace hb0:=true_and True);have hf:=A8 hu.one hu.len hu.sl hs d1 hw @hd @setSt.eq_1;refine sV ?_;(repeat' ((first|((with_reducible first|refine brv_mk ?_ ?_|refine gsplitD ?_ ?_|refine gsplitG ?_ ?_)<;>intro h<;>(try simp only[Bool.not_eq_true',Bool.not_eq_false']at h)<;>replace hb0:=h)|((with_reducible refine yN ?_);refine kS 129 (size_ok s (by omega) ?_))|refine oB ?_|fail)<;>refine sV ?_<;>try with_reducible exact tT))<;>try clear hf
     exact ⟨T-(s+1),setSt M u k m (s+1) (hypTo k s),by omega,le_sub ⟨rfl,rfl,rfl,rfl,rfl,rfl,trivial⟩ ⟨rfl,rfl,trivial⟩ rfl rfl rfl (keepLt0 _),s+1,m,by omega,by omega,rfl,by rw[hypTo_miss hh];exact hm2,by rw[hypTo_miss hh];rfl⟩
    ·have hd:decide (((ones s 8:Nat):Int)≤(k:Int))=true:=by
      simp only[hypP,Bool.and_eq_true,decide_eq_true_eq]at hh ⊢;omega
     have hsn:cE natV (hypTo k s)++[.ext (.int .i64 (s:Int))]=cE natV (hypTo k (s+1)):=by
      rw[hypTo_hit hh];exact cE_snoc natV _ s
     (replace hb0:=true_and True);have hf:=A12 hu.one hu.len hu.sl hs d1 hw @hd @setSt.eq_1 hlen2 hsn @cE_ment @hasK_nil;refine sV ?_;(repeat' ((first|((with_reducible first|refine brv_mk ?_ ?_|refine gsplitD ?_ ?_|refine gsplitG ?_ ?_)<;>intro h<;>(try simp only[Bool.not_eq_true',Bool.not_eq_false']at h)<;>replace hb0:=h)|((with_reducible refine yN ?_);refine kS 129 (size_ok s (by omega) ?_))|refine oB ?_|fail)<;>refine sV ?_<;>try with_reducible exact tT))<;>try clear hf
     exact ⟨T-(s+1),setSt M u k (m+1) (s+1) (hypTo k (s+1)),by omega,le_sub ⟨rfl,rfl,rfl,rfl,rfl,rfl,trivial⟩ ⟨rfl,rfl,trivial⟩ rfl rfl rfl (keepLt0 _),s+1,m+1,by omega,by omega,rfl,by rw[hypTo_hit hh,List.length_append (bs:=[_]),hm2];rfl,rfl⟩
   ·have d1:decide ((s:Int)<(T:Int))=false:=by simp;omega
    have es:s=T:=by omega
    subst es
    (replace hb0:=true_and True);have hf:=A7 hu.one hu.len hu.sl hs d1 @setSt.eq_1 @cE_ment;refine sV ?_;(repeat' ((first|((with_reducible first|refine brv_mk ?_ ?_|refine gsplitD ?_ ?_|refine gsplitG ?_ ?_)<;>intro h<;>(try simp only[Bool.not_eq_true',Bool.not_eq_false']at h)<;>replace hb0:=h)|refine oB ?_|fail)<;>refine sV ?_<;>try with_reducible exact tT))<;>try clear hf
    refine FrzF.tup [] [.int .i64 0] ((hypTo k s).map natV) rfl (by rw[hm2];simp) (fun v M'' hM hsl hf=>hK v M'' hM ?_ hf)
    rw[hm2]at hsl
    exact hsl
end
attribute [local congr] Stop_congr
def posF(a b:List Nat):Bool:=chkF a b&&decide (0<a.length)
section
variable {M:Mem}{K:AV→Hp→Mem→Prop}{u u1 u2:Value}{l1 l2:List Nat}{L:List FR}
theorem pnew1_ok(hu:IsF M u1 u2 l1 l2)(hK:∀M',Mem.le M M'→K (.ext (.bool (!innF l1 l2))) [] M'):CallS Tryz.prog 121 [.ext (.agg #[u1,u2])] [] M [] K:=by
 refine inlS (cs:=[]) Tryz.mixed Tryz.func121 rfl (by kernel_rfl) 0 rfl rfl ?_
 simp only[Tryz.f121]
 have h1:=hu.n.one
 have h2:=hu.d.one
 have hf:=A2 h1 h2;refine wS ?_;refine kN 122 (inner_ok hu (fun M1 m1=>sG ?_));all_goals clear hf
 have hk:=hK M1 m1
 refine wG (A2 h1 h2) ?_
 exact hk
def pnSt(M:Mem)(u:Value)(n i:Nat):St:={env:=[(8,.ext (.int .i64 (i:Int))),(7,.ext (.int .i64 (n:Int))),(4,.ext (.int .i64 0)),(1,.fn 121 []),(0,.ext u)],hp:=[],M:=M,kb:=0,fx:=[]}
theorem pnidx_ok(hu:IsR M 2 FR.c u L)(hL:okFL M L)(hb:L.length<1000000)(hK:∀M' (r:Int),Mem.le M M'→((r=-1∧L.all (fun x=>innF x.l1 x.l2)=true)∨(0≤r∧L.all (fun x=>innF x.l1 x.l2)=false))→K (.ext (.int .i64 r)) [] M'):CallS Tryz.prog 163 [.ext u,.fn 121 []] [] M [] K:=by
 refine inlS (cs:=[]) Tryz.mixed Tryz.func163 rfl (by kernel_rfl) 0 rfl rfl ?_
 simp only[Tryz.f163]
 have h1:=hu.one
 have h2:=hu.len
 have h3:=hu.sl
 refine wT (A3 h1 h2 h3) ?_
 refine ⟨fun m z=>∃M' i,m=L.length-i∧i≤L.length∧Mem.le M M'∧(∀x∈L.take i,innF x.l1 x.l2=true)∧z=pnSt M' u L.length i,
  ⟨L.length,pnSt M u L.length 0,le_sub ⟨rfl,rfl,rfl,rfl,rfl,trivial⟩ trivial rfl rfl rfl (keepLt0 _),⟨M,0,by omega,by omega,Mem.le.refl _,by simp,rfl⟩⟩,?_⟩
 rintro m z ⟨M2,i,rfl,hi,hM,hp,rfl⟩
 have hu2:=hu.le hM
 have hL2:=hL.le hM
 by_cases hlt:i<L.length
 case neg=>
  obtain rfl:i=L.length:=by omega
  have e1:decide ((L.length:Int)<(L.length:Int))=false:=by simp
  have hk:=hK M2 (-1) hM (.inl ⟨rfl,by rw[List.take_of_length_le (Nat.le_refl _)]at hp;exact List.all_eq_true.2 hp⟩)
  refine wT (A3 @pnSt.eq_1 h1 e1) ?_
  exact hk
 have e1:decide ((i:Int)<(L.length:Int))=true:=by rw[decide_eq_true_eq];omega
 have b1:(0:Int)≤(i:Int):=by omega
 have b2:(i:Int)<(L.length:Int):=by omega
 have hnn:=hu2.nn hlt
 have hat:=hu2.at (P:=Tryz.prog) (T:=32) (fun _=>rfl) tk32 tz32 hlt
 have hmem:=List.getElem_mem hlt
 have hF:=hL2 _ hmem
 have hnx:innF L[i].l1 L[i].l2=true→∀x∈L.take (i+1),innF x.l1 x.l2=true:=fun hx x hm=>by
  rw[List.take_add_one,List.getElem?_eq_getElem hlt]at hm
  rcases List.mem_append.1 hm with h1|h1
  ·exact hp x h1
  ·have:x=L[i]:=by simpa using h1
   rw[this];exact hx
 have wi:IntKind.i64.wrap ((i:Int)+1)=((i+1:Nat):Int):=succ_i (by omega)
 generalize L[i]=x at *
 obtain ⟨x1,x2,y1,y2⟩:=x
 have hat:lookM Tryz.prog 32 M2 (elemP u 2 i)=some (.agg #[x1,x2]):=hat
 have hF:IsF M2 x1 x2 y1 y2:=hF
 have p3:=hF.n.one
 have p4:=hF.d.one
 have hf:=A11 @pnSt.eq_1 h1 h2 h3 hnn e1 b1 b2 hat p3 p4;refine wS ?_;refine kN 121 (pnew1_ok hF (fun M3 c1=>sG ?_));all_goals clear hf
 have c1:Mem.le M2 M3:=c1
 refine Stop.go ?_
 cases hc:innF y1 y2 with
 | true=>
  refine wT wi ?_
  exact ⟨L.length-(i+1),pnSt M3 u L.length (i+1),by omega,le_sub ⟨rfl,rfl,rfl,rfl,rfl,trivial⟩ trivial rfl rfl rfl (keepLt0 _),M3,i+1,rfl,by omega,hM.trans c1,hnx hc,rfl⟩
 | false=>
  have hk:=hK M3 i (hM.trans c1) (.inr ⟨by omega,by
   cases h:L.all (fun x=>innF x.l1 x.l2) with
   | false=>rfl
   | true=>have:=List.all_eq_true.1 h _ hmem;simp only at this;rw[this]at hc;cases hc⟩)
  refine wT wi ?_
  exact hk
theorem pncont_ok(hu:IsR M 2 FR.c u L)(hL:okFL M L)(hb:L.length<1000000)(hK:∀M',Mem.le M M'→K (.ext (.bool (!L.all (fun x=>innF x.l1 x.l2)))) [] M'):CallS Tryz.prog 117 [.ext u,.fn 121 []] [] M [] K:=by
 refine inlS (cs:=[]) Tryz.mixed Tryz.func117 rfl (by kernel_rfl) 0 rfl rfl ?_
 simp only[Tryz.f117]
 have h1:=hu.one
 have hf:=h1;refine wS ?_;refine kN 163 (pnidx_ok hu hL hb (fun M3 r c1 c2=>sG ?_));all_goals clear hf
 have hk:=hK M3 c1
 have c2:(r=-1∧L.all (fun x=>innF x.l1 x.l2)=true)∨(0≤r∧L.all (fun x=>innF x.l1 x.l2)=false):=by assumption
 refine Stop.go ?_
 rcases c2 with ⟨rfl,h⟩|⟨h1,h⟩
 ·rw[h]at hk
  refine sU ?_;(repeat' ((first|refine oB ?_|fail)<;>refine sU ?_<;>try with_reducible exact tT))
  exact hk
 ·rw[h]at hk
  have d1:decide (0≤r)=true:=decide_eq_true h1
  refine wT d1 ?_
  exact hk
theorem cloneI_ok(u:Value)(l:List Int)(hu:IsL M intV64 u l)(hb:l.length<1000000000)(hK:∀w M',Mem.le M M'→IsL M' intV64 w l→FreshS M w→K (.ext w) [] M'):CallS Tryz.prog 50 [.ext u] [] M [] K:=by
 refine CallS.frzF ?_
 refine inlS (cs:=[]) Tryz.mixed Tryz.func50 rfl (by kernel_rfl) 0 rfl rfl ?_
 simp only[Tryz.f50]
 cases hn:nilS u with
 | true=>
  have hl:l=[]:=by
   rcases l with _|⟨a,r⟩
   ·rfl
   ·rw[hu.nn (i:=0) (by simp)]at hn;cases hn
  subst hl
  refine wT (A3 hn hu.one hu.sl) ?_
  exact .inl (hK _ _ (Mem.le.refl _) (isL_nil _ _ _) (freshS_nil _ _))
 | false=>
  have hrow:=hu.row
  have h1:List.map AV.ext (List.map intV64 l)=cE intV64 l:=rfl
  have a1:allOne (cE intV64 l)=True:=eq_true (allOne_cE intV64 (fun _=>rfl) l)
  have a2:(l.length*8≤140737488355328)=True:=eq_true (by omega)
  have a3:(l.length≤maxLen)=True:=eq_true (by unfold maxLen;omega)
  refine wT (A12 hn hu.one hu.sl hu.len hrow h1 a1 a2 a3 @cE_ment @cE_kill (A3 @cE_len @hasK_nil @Nat.mul_one)) ?_
  exact FrzF.one (l.map intV64) rfl (by simp) fun w M' h1 h2 h3=>hK w M' h1 (by unfold IsL;exact h2) h3
end
def hI(l:List Int)(m:Int):List Int:=(setsL l m).map fun (x:Nat)=>(x:Int)
def chkS(l s:List Int):Bool:=decide (hI l 1=s) || decide (hI l 2=s)
def oneS(L:List FR):Bool:=decide ((sumF L).1=0)&&decide (cmpF (ofN (sumF L).2.1) (ofN (sumF L).2.2) (ofN 1) (ofN 1)=0)
def chkB(l s:List Int)(L:List FR):Bool:=chkL l&&(decide (s.length=L.length)&&(chkS l s&&(L.all (fun x=>posF x.l1 x.l2)&&oneS L)))
theorem hI_len(l:List Int)(m:Int):(hI l m).length<1000000:=by
 unfold hI setsL
 rw[List.length_map]
 split
 ·rename_i h
  unfold setsE at h
  split at h
  ·rename_i h1
   have:=hypTo_len m.toNat (2^l.length)
   have h2:2^l.length≤2^8:=Nat.pow_le_pow_right (by decide) (chk_len h1).2
   unfold hyps
   omega
  ·cases h
 ·simp
section
variable {M:Mem}{K:AV→Hp→Mem→Prop}{ur us uw:Value}{l s:List Int}{L:List FR}
end
section
variable {M:Mem}{K:AV→Hp→Mem→Prop}{ur us uw:Value}{l s:List Int}{L:List FR}
end
theorem Fz.flat{z:St}{B:St→Prop}{k n w:Nat}{T:TypeId}(t:Nat)(cs:List Value)(E:Env)(R:Hp)(ht:lk z.env t=.slo k 0 n w)(hk:lkH z.hp k=some (T,cs.map .ext))(hn:cs.length=n*w)(hkb:z.kb≤k)
  (hE:subE E z.env) (hE1:hasK k (mentE E)=false) (hR:subHp R z.hp) (hR1:hasK k (mentH R)=false) (hkeep:keepLt z.kb R z.hp) (hfx:∀k,k<z.kb→(lkH z.hp k).isSome=true→k∈z.fx)
  (h:∀M' U,Mem.le z.M M'→SlM M' w U n cs→FreshS z.M U→B {env:=(t,.ext U) :: E,hp:=R,M:=M',kb:=z.kb,fx:=z.fx,fr:=z.fr}):Fz z B:=by
 have hlk:∀j x,lkH [(k,T,cs.map AV.ext)] j=some x→j=k∧x=(T,cs.map .ext):=fun j x h=>by
  simp only[lkH]at h
  split at h
  ·rename_i e;cases h;exact ⟨e.symm,rfl⟩
  ·cases h
 have hc:closedH [(k,T,cs.map AV.ext)]:=fun j T' ds q hj hq=>by
  obtain ⟨_,e⟩:=hlk j _ hj
  cases e
  rw[mentL_ext]at hq;cases hq
 have hs:∀j,(lkH [(k,T,cs.map AV.ext)] j).isSome=true→j=k:=fun j hj=>by
  obtain ⟨x,hx⟩:=Option.isSome_iff_exists.1 hj
  exact (hlk j x hx).1
 refine Fz.frz [(k,T,cs.map .ext)] [t] E R hc (fun j x hx=>?_) hE (fun j h1 h2=>?_) hR (fun j h1 h2=>?_) hkeep hfx (fun M' ρ v us hM hh hu=>?_)
 ·obtain ⟨rfl,rfl⟩:=hlk j x hx
  exact ⟨hk,hkb⟩
 ·exact hasK_no.1 hE1 (hs j h1▸h2)
 ·exact hasK_no.1 hR1 (hs j h1▸h2)
 ·have h1:=hu t
  rw[ht]at h1
  have h2:=borI_is hh _ _ (fun j hj=>by
   have:j=k:=by simpa [AV.ment] using hj
   subst this
   simp[lkH]) h1
  obtain ⟨h3,h4⟩:=h2
  have h5:=h4 T cs (by simp[lkH]) (by omega)
  rw[List.drop_zero,List.take_of_length_le (by omega)]at h5
  exact h M' (us t) hM h5 h3
abbrev LP:=List Nat×List Nat
def prV(x:FR):LP:=(x.l1,x.l2)
def facE(s j:Nat)(x:FR):LP:=if s.testBit j then (x.l1,x.l2) else (ofN (othF x.l1 x.l2).1,ofN (othF x.l1 x.l2).2)
def facG(s:Nat):Nat→List FR→List LP
 | _,[]=>[]
 | j,x :: r=>facE s j x :: facG s (j+1) r
theorem facG_len(s:Nat):∀(L:List FR) (j:Nat),(facG s j L).length=L.length
 | [],_=>rfl
 | x :: r,j=>by rw[facG,List.length_cons,facG_len s r,List.length_cons]
theorem facG_take(s:Nat):∀(L:List FR) (j i:Nat) (h:i<L.length),(facG s j L).take (i+1)=(facG s j L).take i++[facE s (j+i) L[i]]
 | x :: r,j,0,_=>by simp[facG]
 | x :: r,j,i+1,h=>by
  rw[facG,List.take_succ_cons,List.take_succ_cons,facG_take s r (j+1) i (by simpa using h),List.cons_append,List.getElem_cons_succ,show j+1+i=j+(i+1) by omega]
def prodV(n d:Nat):List LP→Int×Nat×Nat
 | []=>(0,n,d)
 | x :: r=>if (mulF (ofN n) (ofN d) x.1 x.2).1=0 then prodV (mulF (ofN n) (ofN d) x.1 x.2).2.1 (mulF (ofN n) (ofN d) x.1 x.2).2.2 r else ((mulF (ofN n) (ofN d) x.1 x.2).1,0,0)
theorem prodG_V:∀(L:List FR) (n d:Nat),prodG n d L=prodV n d (L.map prV)
 | [],_,_=>rfl
 | x :: r,n,d=>by rw[prodG_cons,List.map_cons,prodV,prodG_V r];rfl
def prodI(n d:Nat):List LP→Nat×Nat
 | []=>(n,d)
 | x :: r=>prodI (mulF (ofN n) (ofN d) x.1 x.2).2.1 (mulF (ofN n) (ofN d) x.1 x.2).2.2 r
theorem prodV_I:∀(X:List LP) (n d:Nat),(prodV n d X).1=0→prodV n d X=(0,prodI n d X)
 | [],_,_,_=>rfl
 | x :: r,n,d,h=>by
  rw[prodV]at h ⊢
  rw[prodI]
  split at h
  ·rename_i h1;rw[if_pos h1];exact prodV_I r _ _ h
  ·rename_i h1;exact absurd h h1
def newW(P:List FR)(s:Nat):Nat×Nat:=prodI 1 1 (facG s 0 P)
def qFR(q:Nat×Nat):FR:=⟨.slice none 0 0,.slice none 0 0,ofN q.1,ofN q.2⟩
def normQ(qs:List (Nat×Nat)):Int×List (Nat×Nat):=normF (qs.map qFR)
theorem sumG_cong:∀(L L':List FR) (n d:Nat),L.map prV=L'.map prV→sumG n d L=sumG n d L'
 | [],[],_,_,_=>rfl
 | [],_ :: _,_,_,h=>by simp at h
 | _ :: _,[],_,_,h=>by simp at h
 | x :: r,y :: q,n,d,h=>by
  rw[List.map_cons,List.map_cons,List.cons.injEq]at h
  have h1:x.l1=y.l1∧x.l2=y.l2:=Prod.mk.injEq ..▸h.1
  rw[sumG_cons,sumG_cons,h1.1,h1.2,sumG_cong r q _ _ h.2]
theorem divG_cong:∀(L L':List FR) (n d:Nat),L.map prV=L'.map prV→divG n d L=divG n d L'
 | [],[],_,_,_=>rfl
 | [],_ :: _,_,_,h=>by simp at h
 | _ :: _,[],_,_,h=>by simp at h
 | x :: r,y :: q,n,d,h=>by
  rw[List.map_cons,List.map_cons,List.cons.injEq]at h
  have h1:x.l1=y.l1∧x.l2=y.l2:=Prod.mk.injEq ..▸h.1
  rw[divG_cons,divG_cons,h1.1,h1.2,divG_cong r q _ _ h.2]
theorem all_cong(f:List Nat→List Nat→Bool):∀(L L':List FR),L.map prV=L'.map prV→L.all (fun x=>f x.l1 x.l2)=L'.all (fun x=>f x.l1 x.l2)
 | [],[],_=>rfl
 | [],_ :: _,h=>by simp at h
 | _ :: _,[],h=>by simp at h
 | x :: r,y :: q,h=>by
  rw[List.map_cons,List.map_cons,List.cons.injEq]at h
  have h1:x.l1=y.l1∧x.l2=y.l2:=Prod.mk.injEq ..▸h.1
  rw[List.all_cons,List.all_cons,h1.1,h1.2,all_cong f r q h.2]
theorem sumF_cong{L L':List FR}(h:L.map prV=L'.map prV):sumF L=sumF L':=by
 unfold sumF
 rw[all_cong chkF L L' h,sumG_cong L L' 0 1 h]
theorem normF_cong{L L':List FR}(h:L.map prV=L'.map prV):normF L=normF L':=by
 unfold normF
 rw[sumF_cong h,divG_cong L L' _ _ h]
theorem normF_Q{L:List FR}{qs:List (Nat×Nat)}(h:L.map prV=qs.map fun q=>(ofN q.1,ofN q.2)):normF L=normQ qs:=normF_cong (by rw[h,List.map_map];rfl)
structure BR where
 e:Int
 l:List Int
 s:List Nat
 q:List (Nat×Nat)
def errB(e:Int):BR:=⟨e,[],[],[]⟩
def okB(l:List Int)(s:List Nat)(r:Int×List (Nat×Nat)):BR:=if r.1=0 then ⟨0,l,s,r.2⟩ else errB r.1
def newB(l:List Int)(P:List FR)(m:Int):BR:=
 if setsE l m=0 then (if P.length=l.length then (if P.all (fun x=>innF x.l1 x.l2) then okB l (setsL l m) (normQ ((setsL l m).map (newW P))) else errB 41) else errB 1) else errB (setsE l m)
def BelK(M:Mem)(K:AV→Hp→Mem→Prop)(r:BR):Prop:=∀ur us uw M',Mem.le M M'→IsL M' intV64 ur r.l→IsL M' natV us r.s→FQ M' uw r.q→K (.ext (.tuple #[.agg #[ur,us,uw],.int .i64 r.e])) [] M'
theorem BelK.err{M M':Mem}{K:AV→Hp→Mem→Prop}{e:Int}(h:BelK M K (errB e))(hM:Mem.le M M'):K (.ext (.tuple #[.agg #[.slice none 0 0,.slice none 0 0,.slice none 0 0],.int .i64 e])) [] M':=
 h _ _ _ M' hM (isL_nil _ _ _) (isL_nil _ _ _) (fq_nil _)
theorem in_bit0(s i:Nat)(h:s<2^63):decide (bits .and .i64 ((s >>> i:Nat):Int) 1=0) = !s.testBit i:=by
 have h1:=in_bit s i h
 have h2:bits .and .i64 ((s >>> i:Nat):Int) ((1:Nat):Int)=((((s >>> i:Nat) &&& 1:Nat)):Int):=bits_and (Nat.lt_of_le_of_lt (by rw[Nat.shiftRight_eq_div_pow];exact Nat.div_le_self _ _) h) (by omega)
 have h3:((s >>> i) &&& 1)=0∨((s >>> i) &&& 1)=1:=by
  rw[Nat.and_one_is_mod];omega
 rw[show ((1:Nat):Int)=1 from rfl]at h2
 rw[h2]at h1 ⊢
 rw[←h1]
 rcases h3 with h3|h3<;>rw[h3]<;>rfl
def BelKF(M:Mem)(K:AV→Hp→Mem→Prop)(r:BR):Prop:=∀ur us uw M',Mem.le M M'→IsL M' intV64 ur r.l→IsL M' natV us r.s→FQF M M' uw r.q→FreshS M ur→FreshS M us→K (.ext (.tuple #[.agg #[ur,us,uw],.int .i64 r.e])) [] M'
theorem BelKF.err{M M':Mem}{K:AV→Hp→Mem→Prop}{e:Int}(h:BelKF M K (errB e))(hM:Mem.le M M'):K (.ext (.tuple #[.agg #[.slice none 0 0,.slice none 0 0,.slice none 0 0],.int .i64 e])) [] M':=
 h _ _ _ M' hM (isL_nil _ _ _) (isL_nil _ _ _) (fqf_nil _ _) (freshS_nil _ _) (freshS_nil _ _)
section
variable {M:Mem}{K:AV→Hp→Mem→Prop}{ur up:Value}{l:List Int}{P:List FR}
def nwSt(M:Mem)(ur up us:Value)(n k:Nat)(D:List FR):St:={env:=[(44,.ext (.int .i64 (k:Int))),(43,.ext (.int .i64 (n:Int))),(42,.ext us),(10,.slo 41 0 n 2),(8,.ext us),(6,.own 6 0),(3,.own 3 0),(1,.ext up)],hp:=[(41,32,frC (D++List.replicate (n-k) zFR)),(6,53,[.ext (.slice none 0 0),.ext (.slice none 0 0),.ext (.slice none 0 0)]),(3,27,[.ext ur])],M:=M,kb:=0,fx:=[]}
def nwSt2(M:Mem)(ur up us:Value)(n k s np j:Nat)(D E:List FR):St:={env:=[(51,.ext (.int .i64 (j:Int))),(50,.ext (.int .i64 (np:Int))),(49,.ext up),(13,.slo 13 0 j 2),(12,.ext (.int .i64 (s:Int))),(11,.ext (.int .i64 (k:Int))),(44,.ext (.int .i64 (k:Int))),(43,.ext (.int .i64 (n:Int))),(42,.ext us),(10,.slo 41 0 n 2),(8,.ext us),(6,.own 6 0),(3,.own 3 0),(1,.ext up)],hp:=[(13,32,frC E),(41,32,frC (D++List.replicate (n-k) zFR)),(6,53,[.ext (.slice none 0 0),.ext (.slice none 0 0),.ext (.slice none 0 0)]),(3,27,[.ext ur])],M:=M,kb:=0,fx:=[]}
theorem pnewF_ok(m:Int)(h1:IsL M intV64 ur l)(h2:IsR M 2 FR.c up P)(h3:okFL M P)(b1:l.length<1000000)(b2:P.length<1000000)
  (hpr:P.all (fun x=>innF x.l1 x.l2)=true→P.length≤8→∀s,(prodV 1 1 (facG s 0 P)).1=0) (hK:BelKF M K (newB l P m)):CallS Tryz.prog 81 [.ext (.agg #[ur]),.ext up,.ext (.int .i64 m)] [] M [] K:=by
 refine inlS (cs:=[24]) Tryz.mixed Tryz.func81 rfl (by kernel_rfl) 0 rfl rfl ?_
 simp only[Tryz.f81]
 have o1:=h1.one
 have n1:=h1.len
 have s1:=h1.sl
 have o2:=h2.one
 have n2:=h2.len
 have s2:=h2.sl
 unfold newB at hK
 have hf:=A6 o1 o2 n1 n2 s1 s2;refine wS ?_;refine kN 102 (Sets_ok ur l m h1 (by omega) (fun us M1 m1 a1 afr=>sG ?_));all_goals clear hf
 have m1:Mem.le M M1:=m1
 have o3:=a1.one
 have n3:=a1.len
 have s3:=a1.sl
 by_cases he:setsE l m=0
 case neg=>
  rw[if_neg he]at hK
  have hk:=hK.err m1
  have e1:decide (setsE l m=0)=false:=decide_eq_false he
  refine wG (A4 o1 o2 o3 e1) ?_
  exact hk
 rw[if_pos he]at hK
 have e1:decide (setsE l m=0)=true:=decide_eq_true he
 by_cases hl:P.length=l.length
 case neg=>
  rw[if_neg hl]at hK
  have hk:=hK.err m1
  have e2:decide ((P.length:Int)=(l.length:Int))=false:=decide_eq_false (by omega)
  refine wG (A9 o1 o2 o3 n1 n2 s1 s2 e1 e2) ?_
  exact hk
 rw[if_pos hl]at hK
 have e2:decide ((P.length:Int)=(l.length:Int))=true:=decide_eq_true (by omega)
 have hf:=A9 o1 o2 o3 n1 n2 s1 s2 e1 e2;refine wH ?_;refine kN 117 (pncont_ok (h2.le m1) (h3.le m1) b2 (fun M2 m2=>sG ?_));all_goals clear hf
 have m2:Mem.le M1 M2:=m2
 cases hp:P.all (fun x=>innF x.l1 x.l2) with
 | false=>
  rw[hp,if_neg (by decide)]at hK
  have hk:=hK.err (m1.trans m2)
  refine wG (A4 o1 o2 o3 hp) ?_
  exact hk
 | true=>
 rw[hp,if_pos rfl]at hK
 have hlen:l.length≤8:=by
  unfold setsE at he
  split at he
  ·rename_i h;exact (chk_len h).2
  ·cases he
 have hpr:=hpr hp (by omega)
 have hbd:∀s∈setsL l m,s<256:=fun s hs=>by
  unfold setsL at hs
  rw[if_pos he]at hs
  unfold hyps hypTo at hs
  have:=List.mem_range.1 (List.mem_filter.1 hs).1
  have h2:2^l.length≤2^8:=Nat.pow_le_pow_right (by decide) hlen
  omega
 have hsl:=hI_len l m
 unfold hI at hsl
 rw[List.length_map]at hsl
 generalize setsL l m=S at *
 have t1:=Int.toNat_natCast S.length
 have t2:=frC_rep S.length
 refine wG (A12 o1 o2 o3 n1 n2 n3 s1 s2 s3 hp t1 (A4 t2 @frC_ment @frC_kill @hasK_nil)) ?_
 refine ⟨fun z=>∃M' D,D.length=S.length∧Mem.le M2 M'∧okFL M' D∧D.map prV=(S.map (newW P)).map (fun q=>(ofN q.1,ofN q.2))∧z=nwSt M' ur up us S.length S.length D,?_,?_⟩
 ·refine wT (A12 o1 o2 o3 n1 n2 n3 s1 s2 s3 @frC_ment @frC_kill @hasK_nil) ?_
  refine ⟨fun m z=>∃M' D k,m=S.length-k∧k≤S.length∧Mem.le M2 M'∧D.length=k∧okFL M' D∧D.map prV=((S.take k).map (newW P)).map (fun q=>(ofN q.1,ofN q.2))∧z=nwSt M' ur up us S.length k D,
   ⟨S.length,nwSt M2 ur up us S.length 0 [],le_sub ⟨rfl,rfl,rfl,rfl,rfl,rfl,rfl,rfl,trivial⟩ ⟨rfl,rfl,rfl,trivial⟩ rfl rfl rfl (keepLt0 _),⟨M2,[],0,by omega,by omega,Mem.le.refl _,rfl,(fun x hx=>by cases hx),rfl,rfl⟩⟩,?_⟩
  have a1:=a1.le m2
  rintro m' z ⟨M3,D,k,rfl,hk,hM,hD,hDo,hDv,rfl⟩
  by_cases hlt:k<S.length
  case neg=>
   obtain rfl:k=S.length:=by omega
   have d1:decide ((S.length:Int)<(S.length:Int))=false:=by simp
   rw[List.take_length]at hDv
   refine wT (A8 @nwSt.eq_1 d1 o1 o2 o3 @frC_ment @frC_kill @hasK_nil) ?_
   exact ⟨nwSt M3 ur up us S.length S.length D,le_sub ⟨rfl,rfl,rfl,rfl,rfl,rfl,rfl,rfl,trivial⟩ ⟨rfl,rfl,rfl,trivial⟩ rfl rfl rfl (keepLt0 _),M3,D,hD,hM,hDo,hDv,rfl⟩
  have d1:decide ((k:Int)<(S.length:Int))=true:=by rw[decide_eq_true_eq];omega
  have q1:(0:Int)≤(k:Int):=by omega
  have q2:(k:Int)<(S.length:Int):=by omega
  have a3:=a1.le hM
  have f1:=a3.idx (P:=Tryz.prog) (T:=3) tk3 tz3 (by omega) hlt
  have hs:=hbd _ (List.getElem_mem hlt)
  have htk:S.take (k+1)=S.take k++[S[k]]:=by rw[List.take_add_one,List.getElem?_eq_getElem hlt];rfl
  have wk:IntKind.i64.wrap ((k:Int)+1)=((k+1:Nat):Int):=succ_i (by omega)
  have hlen:=frC_len (D++List.replicate (S.length-k) zFR)
  rw[List.length_append,hD,List.length_replicate,show k+(S.length-k)=S.length by omega]at hlen
  have hin:k*2+2≤S.length*2:=by omega
  generalize S[k]=s at *
  refine wT (A12 @nwSt.eq_1 @natV.eq_1 d1 q1 q2 f1 o1 o2 o3 n2 s2 (A3 @frC_ment @frC_kill @hasK_nil)) ?_
  refine ⟨fun m z=>∃M' E j,m=P.length-j∧j≤P.length∧Mem.le M3 M'∧E.length=j∧okFL M' E∧E.map prV=(facG s 0 P).take j∧z=nwSt2 M' ur up us S.length k s P.length j D E,
   ⟨P.length,nwSt2 M3 ur up us S.length k s P.length 0 D [],(le_nil 13 13 32 2 rfl (.inl (by simp[awayB,mentE,mentH,mentL,AV.ment,hasK,frC_ment]))).trans (le_sub ⟨rfl,rfl,rfl,rfl,rfl,rfl,rfl,rfl,rfl,rfl,rfl,rfl,rfl,rfl,trivial⟩ ⟨rfl,rfl,rfl,rfl,trivial⟩ rfl rfl rfl (keepLt0 _)),⟨M3,[],0,by omega,by omega,Mem.le.refl _,rfl,(fun x hx=>by cases hx),rfl,rfl⟩⟩,?_⟩
  rintro m'' z ⟨M4,E,j,rfl,hj,hM4,hE,hEo,hEv,rfl⟩
  by_cases hjt:j<P.length
  case neg=>
   obtain rfl:j=P.length:=by omega
   have g1:decide ((P.length:Int)<(P.length:Int))=false:=by simp
   rw[List.take_of_length_le (by rw[facG_len];omega)]at hEv
   have hv:prodG 1 1 E=(0,(newW P s).1,(newW P s).2):=by rw[prodG_V,hEv,prodV_I _ _ _ (hpr s)];rfl
   have hf:=A10 @nwSt2.eq_1 g1 q1 q2 o1 o2 o3 @frC_ment @frC_kill @hasK_nil;refine wS ?_;refine yH 124 ?_;refine sF ?_;refine product_bor 13 P.length _ (by omega) hEo (by omega) hv (fun w1 w2 M5 c1 c2=>sG ?_);all_goals clear hf
   have c1:Mem.le M4 M5:=c1
   have p5:=c2.n.one
   have p6:=c2.d.one
   have hst:=frC_setF (L:=D++List.replicate (S.length-k) zFR) (i:=k) (by rw[List.length_append,hD,List.length_replicate];omega) ⟨w1,w2,ofN (newW P s).1,ofN (newW P s).2⟩
   rw[set_fill D _ _ hD hlt]at hst
   refine wG (A12 p5 p6 wk q1 q2 hlen hin hst o1 o2 o3 (A4 @frC_ment @frC_kill @hasK_nil @Nat.zero_add)) ?_
   exact ⟨S.length-(k+1),nwSt M5 ur up us S.length (k+1) (D++[⟨w1,w2,ofN (newW P s).1,ofN (newW P s).2⟩]),by omega,le_sub ⟨rfl,rfl,rfl,rfl,rfl,rfl,rfl,rfl,trivial⟩ ⟨rfl,rfl,rfl,trivial⟩ rfl rfl rfl (keepLt0 _),M5,_,k+1,rfl,by omega,hM.trans (hM4.trans c1),by rw[List.length_append,hD];rfl,(fun x hx=>by
    rcases List.mem_append.1 hx with hx|hx
    ·exact ((hDo x hx).le hM4).le c1
    ·rw[List.mem_singleton.1 hx];exact c2),by rw[List.map_append,hDv,htk,List.map_append,List.map_append];rfl,rfl⟩
  have g1:decide ((j:Int)<(P.length:Int))=true:=by rw[decide_eq_true_eq];omega
  have q3:(0:Int)≤(j:Int):=by omega
  have q4:(j:Int)<(P.length:Int):=by omega
  have hu2:=(((h2.le m1).le m2).le hM).le hM4
  have hnn:=hu2.nn hjt
  have hat:=hu2.at (P:=Tryz.prog) (T:=32) (fun _=>rfl) tk32 tz32 hjt
  have hF:=(((h3.le m1).le m2).le hM).le hM4 _ (List.getElem_mem hjt)
  have wj:IntKind.i64.wrap ((j:Int)+1)=((j+1:Nat):Int):=succ_i (by omega)
  have htj:=facG_take s P 0 j hjt
  have hlE:(frC E).length=j*2:=by rw[frC_len,hE]
  rw[Nat.zero_add]at htj
  have sh:=shr_nat s j (by omega)
  have ib:=in_bit0 s j (by omega)
  generalize P[j]=x at *
  obtain ⟨x1,x2,y1,y2⟩:=x
  have hat:lookM Tryz.prog 32 M4 (elemP up 2 j)=some (.agg #[x1,x2]):=hat
  have hF:IsF M4 x1 x2 y1 y2:=hF
  have p3:=hF.n.one
  have p4:=hF.d.one
  unfold facE at htj
  cases hb:s.testBit j with
  | true=>
   rw[hb]at htj ib
   have ap:frC E++[.ext x1,.ext x2]=frC (E++[⟨x1,x2,y1,y2⟩]):=by simp[frC,FR.c]
   refine wT (A12 @nwSt2.eq_1 g1 q3 q4 sh ib hnn hat p3 p4 ap (A10 hlE wj o1 o2 o3 n2 s2 @frC_ment @frC_kill @hasK_nil)) ?_
   exact ⟨P.length-(j+1),nwSt2 M4 ur up us S.length k s P.length (j+1) D (E++[⟨x1,x2,y1,y2⟩]),by omega,le_sub ⟨rfl,rfl,rfl,rfl,rfl,rfl,rfl,rfl,rfl,rfl,rfl,rfl,rfl,rfl,trivial⟩ ⟨rfl,rfl,rfl,rfl,trivial⟩ rfl rfl rfl (keepLt0 _),M4,_,j+1,rfl,by omega,hM4,by rw[List.length_append,hE];rfl,(fun x hx=>by
    rcases List.mem_append.1 hx with hx|hx
    ·exact hEo x hx
    ·rw[List.mem_singleton.1 hx];exact hF),by rw[List.map_append,hEv,htj];rfl,rfl⟩
  | false=>
   rw[hb]at htj ib
   have hf:=A12 @nwSt2.eq_1 g1 q3 q4 sh ib hnn hat p3 p4 hlE (A9 wj o1 o2 o3 n2 s2 @frC_ment @frC_kill @hasK_nil);refine wS ?_;refine kN 123 (other_ok hF (fun w1 w2 M5 c1 c2 _ _=>sG ?_));all_goals clear hf
   have c1:Mem.le M4 M5:=c1
   have p5:=c2.n.one
   have p6:=c2.d.one
   have ap:frC E++[.ext w1,.ext w2]=frC (E++[⟨w1,w2,ofN (othF y1 y2).1,ofN (othF y1 y2).2⟩]):=by simp[frC,FR.c]
   refine wG (A12 p5 p6 ap hlE wj o1 o2 o3 n2 s2 @frC_ment (A2 @frC_kill @hasK_nil)) ?_
   exact ⟨P.length-(j+1),nwSt2 M5 ur up us S.length k s P.length (j+1) D (E++[⟨w1,w2,ofN (othF y1 y2).1,ofN (othF y1 y2).2⟩]),by omega,le_sub ⟨rfl,rfl,rfl,rfl,rfl,rfl,rfl,rfl,rfl,rfl,rfl,rfl,rfl,rfl,trivial⟩ ⟨rfl,rfl,rfl,rfl,trivial⟩ rfl rfl rfl (keepLt0 _),M5,_,j+1,rfl,by omega,hM4.trans c1,by rw[List.length_append,hE];rfl,(fun x hx=>by
    rcases List.mem_append.1 hx with hx|hx
    ·exact (hEo x hx).le c1
    ·rw[List.mem_singleton.1 hx];exact c2),by rw[List.map_append,hEv,htj];rfl,rfl⟩
 ·rintro z ⟨M3,D,hD,hM2,hDo,hDv,rfl⟩
  have hM:=(m1.trans m2).trans hM2
  refine Fz.flat (k:=41) (n:=S.length) (w:=2) (T:=32) 10 (D.flatMap FR.c) [(8,.ext us),(6,.own 6 0),(3,.own 3 0)] [(6,53,[.ext (.slice none 0 0),.ext (.slice none 0 0),.ext (.slice none 0 0)]),(3,27,[.ext ur])] rfl (by
   show some (_,frC (D++List.replicate (S.length-S.length) zFR))=_
   rw[Nat.sub_self,List.replicate_zero,List.append_nil];rfl) (by rw[flat_len (z:=2) (f:=FR.c) (fun _=>rfl),hD]) (Nat.zero_le _) ⟨rfl,rfl,rfl,trivial⟩ rfl ⟨rfl,rfl,trivial⟩ rfl (keepLt0 _) (fun j hj _=>absurd hj (Nat.not_lt_zero _)) (fun M4 w hM4 hw _=>?_)
  have hu:IsR M4 2 FR.c w D:=by unfold IsR;rw[hD];exact hw
  have p1:=hu.one
  have hn:=normF_Q hDv
  rw[←hn]at hK
  have hf:=A3 p1 o1 o3;refine wS ?_;refine kN 125 (normalF_ok hu (hDo.le hM4) (by omega) (fun U M5 c1 c2=>sG ?_));all_goals clear hf
  have c1:Mem.le M4 M5:=c1
  have hM4:Mem.le M3 M4:=hM4
  have p2:U.oneCell'=true:=by obtain ⟨_,h,_⟩:=c2;exact h.one
  have m5:Mem.le M M5:=hM.trans (hM4.trans c1)
  unfold okB at hK
  by_cases h0:(normF D).1=0
  case neg=>
   rw[if_neg h0]at hK
   have hk:=hK.err m5
   have d0:decide ((normF D).1=0)=false:=decide_eq_false h0
   refine wG (A5 p1 p2 o1 o3 d0) ?_
   exact hk
  rw[if_pos h0]at hK
  have d0:decide ((normF D).1=0)=true:=decide_eq_true h0
  have hf:=A5 p1 p2 o1 o3 d0;refine wH ?_;refine kN 50 (cloneI_ok ur l (h1.le m5) (by omega) (fun v M6 g1 g2 g3=>sG ?_));all_goals clear hf
  have g1:Mem.le M5 M6:=g1
  have p3:=g2.one
  have a6:=(((a1.le m2).le hM2).le (hM4.trans c1)).le g1
  have hk:=hK v us U M6 (m5.trans g1) g2 a6 ((c2.base (hM.trans hM4)).le g1) (g3.le m5) afr
  refine wG (A6 p1 p2 p3 o1 o3 d0) ?_
  exact hk
theorem pnew_ok(m:Int)(h1:IsL M intV64 ur l)(h2:IsR M 2 FR.c up P)(h3:okFL M P)(b1:l.length<1000000)(b2:P.length<1000000)
  (hpr:P.all (fun x=>innF x.l1 x.l2)=true→P.length≤8→∀s,(prodV 1 1 (facG s 0 P)).1=0) (hK:BelK M K (newB l P m)):CallS Tryz.prog 81 [.ext (.agg #[ur]),.ext up,.ext (.int .i64 m)] [] M [] K:=
 pnewF_ok m h1 h2 h3 b1 b2 hpr fun a b c M' g1 g2 g3 g4 _ _=>hK a b c M' g1 g2 g3 g4.fq
end
theorem facG_drop(s:Nat):∀(L:List FR) (j i:Nat) (h:i<L.length),(facG s j L).drop i=facE s (j+i) L[i] :: (facG s j L).drop (i+1)
 | x :: r,j,0,_=>by simp[facG]
 | x :: r,j,i+1,h=>by
  rw[facG,List.drop_succ_cons,List.drop_succ_cons,facG_drop s r (j+1) i (by simpa using h),List.getElem_cons_succ,show j+1+i=j+(i+1) by omega]
section
variable {M:Mem}{K:AV→Hp→Mem→Prop}{ur up:Value}{l:List Int}{P:List FR}
def rnSt0(M:Mem)(ur up us:Value)(i:Nat):St:={env:=[(10,.ext (.int .i64 (i:Int))),(8,.ext us),(6,.own 6 0),(3,.own 3 0),(1,.ext up)],hp:=[(6,53,[.ext (.slice none 0 0),.ext (.slice none 0 0),.ext (.slice none 0 0)]),(3,27,[.ext ur])],M:=M,kb:=0,fx:=[]}
def rnSt(M:Mem)(ur up us:Value)(k:Nat)(D:List FR):St:={env:=[(12,.ext (.int .i64 (k:Int))),(11,.slo 11 0 k 2),(8,.ext us),(6,.own 6 0),(3,.own 3 0),(1,.ext up)],hp:=[(11,32,frC D),(6,53,[.ext (.slice none 0 0),.ext (.slice none 0 0),.ext (.slice none 0 0)]),(3,27,[.ext ur])],M:=M,kb:=0,fx:=[]}
def rnSt2(M:Mem)(ur up us w1 w2:Value)(k j:Nat)(D:List FR):St:={env:=[(14,.ext (.int .i64 (j:Int))),(13,.own 13 0),(12,.ext (.int .i64 (k:Int))),(11,.slo 11 0 k 2),(8,.ext us),(6,.own 6 0),(3,.own 3 0),(1,.ext up)],hp:=[(13,32,[.ext w1,.ext w2]),(11,32,frC D),(6,53,[.ext (.slice none 0 0),.ext (.slice none 0 0),.ext (.slice none 0 0)]),(3,27,[.ext ur])],M:=M,kb:=0,fx:=[]}
theorem rnew_ok(m:Int)(h1:IsL M intV64 ur l)(h2:IsR M 2 FR.c up P)(h3:okFL M P)(b1:l.length<1000000)(b2:P.length<1000000)
  (hK:BelK M K (newB l P m)):CallS Tryz.prog 45 [.ext (.agg #[ur]),.ext up,.ext (.int .i64 m)] [] M [] K:=by
 refine inlS (cs:=[24]) Tryz.mixed Tryz.func45 rfl (by kernel_rfl) 0 rfl rfl ?_
 simp only[Tryz.f45]
 have o1:=h1.one
 have n1:=h1.len
 have s1:=h1.sl
 have o2:=h2.one
 have n2:=h2.len
 have s2:=h2.sl
 unfold newB at hK
 have hf:=A6 o1 o2 n1 n2 s1 s2;refine wS ?_;refine kN 85 (SetsR_ok ur l m h1 (by omega) (fun us M1 m1 a1 _=>sG ?_));all_goals clear hf
 have m1:Mem.le M M1:=m1
 have o3:=a1.one
 have n3:=a1.len
 have s3:=a1.sl
 by_cases he:setsE l m=0
 case neg=>
  rw[if_neg he]at hK
  have hk:=hK.err m1
  have e1:decide (setsE l m=0)=false:=decide_eq_false he
  refine wG (A4 o1 o2 o3 e1) ?_
  exact hk
 rw[if_pos he]at hK
 have e1:decide (setsE l m=0)=true:=decide_eq_true he
 by_cases hl:P.length=l.length
 case neg=>
  rw[if_neg hl]at hK
  have hk:=hK.err m1
  have e2:decide ((P.length:Int)=(l.length:Int))=false:=decide_eq_false (by omega)
  refine wG (A9 o1 o2 o3 n1 n2 s1 s2 e1 e2) ?_
  exact hk
 rw[if_pos hl]at hK
 have e2:decide ((P.length:Int)=(l.length:Int))=true:=decide_eq_true (by omega)
 have hlen:l.length≤8:=by
  unfold setsE at he
  split at he
  ·rename_i h;exact (chk_len h).2
  ·cases he
 have hbd:∀s∈setsL l m,s<256:=fun s hs=>by
  unfold setsL at hs
  rw[if_pos he]at hs
  unfold hyps hypTo at hs
  have:=List.mem_range.1 (List.mem_filter.1 hs).1
  have h2:2^l.length≤2^8:=Nat.pow_le_pow_right (by decide) hlen
  omega
 have hsl:=hI_len l m
 unfold hI at hsl
 rw[List.length_map]at hsl
 generalize setsL l m=S at *
 refine wG (A9 o1 o2 o3 n1 n2 s1 s2 e1 e2) ?_
 refine ⟨fun m z=>∃M' i,m=P.length-i∧i≤P.length∧Mem.le M1 M'∧(∀x∈P.take i,innF x.l1 x.l2=true)∧z=rnSt0 M' ur up us i,
  ⟨P.length,rnSt0 M1 ur up us 0,le_sub ⟨rfl,rfl,rfl,rfl,rfl,trivial⟩ ⟨rfl,rfl,trivial⟩ rfl rfl rfl (keepLt0 _),⟨M1,0,by omega,by omega,Mem.le.refl _,(fun x hx=>by rw[List.take_zero]at hx;cases hx),rfl⟩⟩,?_⟩
 rintro m' z ⟨M2,i,rfl,hi,m2,hp,rfl⟩
 by_cases hlt:i<P.length
 case pos=>
  have d1:decide ((i:Int)<(P.length:Int))=true:=by rw[decide_eq_true_eq];omega
  have q3:(0:Int)≤(i:Int):=by omega
  have q4:(i:Int)<(P.length:Int):=by omega
  have hu2:=(h2.le m1).le m2
  have hnn:=hu2.nn hlt
  have hat:=hu2.at (P:=Tryz.prog) (T:=32) (fun _=>rfl) tk32 tz32 hlt
  have hmem:=List.getElem_mem hlt
  have hF:=(h3.le m1).le m2 _ hmem
  have wi:IntKind.i64.wrap ((i:Int)+1)=((i+1:Nat):Int):=succ_i (by omega)
  have hnx:innF P[i].l1 P[i].l2=true→∀x∈P.take (i+1),innF x.l1 x.l2=true:=fun hx x hm=>by
   rw[List.take_add_one,List.getElem?_eq_getElem hlt]at hm
   rcases List.mem_append.1 hm with h1|h1
   ·exact hp x h1
   ·have:x=P[i]:=by simpa using h1
    rw[this];exact hx
  have hno:innF P[i].l1 P[i].l2=false→P.all (fun x=>innF x.l1 x.l2)=false:=fun h=>by
   cases h2:P.all (fun x=>innF x.l1 x.l2) with
   | false=>rfl
   | true=>have hq:innF P[i].l1 P[i].l2=true:=List.all_eq_true.1 h2 _ hmem;rw[hq]at h;cases h
  generalize P[i]=x at *
  obtain ⟨x1,x2,y1,y2⟩:=x
  have hat:lookM Tryz.prog 32 M2 (elemP up 2 i)=some (.agg #[x1,x2]):=hat
  have hF:IsF M2 x1 x2 y1 y2:=hF
  have p3:=hF.n.one
  have p4:=hF.d.one
  simp only at hnx hno
  have hf:=A12 @rnSt0.eq_1 d1 q3 q4 hnn hat p3 p4 o1 o2 o3 (A2 n2 s2);refine wS ?_;refine kN 47 (rinner_ok hF (fun M3 m3=>sG ?_));all_goals clear hf
  have m3:Mem.le M2 M3:=m3
  cases hc:innF y1 y2 with
  | false=>
   rw[hno hc,if_neg (by decide)]at hK
   have hk:=hK.err (m1.trans (m2.trans m3))
   refine wG (A4 o1 o2 o3 hc) ?_
   exact hk
  | true=>
   refine wG (A5 o1 o2 o3 hc wi) ?_
   exact ⟨P.length-(i+1),rnSt0 M3 ur up us (i+1),by omega,le_sub ⟨rfl,rfl,rfl,rfl,rfl,trivial⟩ ⟨rfl,rfl,trivial⟩ rfl rfl rfl (keepLt0 _),M3,i+1,rfl,by omega,m2.trans m3,hnx hc,rfl⟩
 obtain rfl:i=P.length:=by omega
 have hp:P.all (fun x=>innF x.l1 x.l2)=true:=List.all_eq_true.2 (by rw[List.take_length]at hp;exact hp)
 rw[hp,if_pos rfl]at hK
 have d1:decide ((P.length:Int)<(P.length:Int))=false:=by simp
 refine wT (A7 @rnSt0.eq_1 d1 o1 o2 o3 n2 s2) ?_
 clear d1
 refine ⟨fun z=>∃M' D,D.length=S.length∧Mem.le M2 M'∧okFL M' D∧D.map prV=(S.map (newW P)).map (fun q=>(ofN q.1,ofN q.2))∧z=rnSt M' ur up us S.length D,?_,?_⟩
 ·refine wT (A9 o1 o2 o3 n1 n2 n3 s1 s2 s3) ?_
  refine ⟨fun m z=>∃M' D k,m=S.length-k∧k≤S.length∧Mem.le M2 M'∧D.length=k∧okFL M' D∧D.map prV=((S.take k).map (newW P)).map (fun q=>(ofN q.1,ofN q.2))∧z=rnSt M' ur up us k D,
   ⟨S.length,rnSt M2 ur up us 0 [],(le_nil 11 11 32 2 rfl (.inl (by simp[awayB,mentE,mentH,mentL,AV.ment,hasK,frC_ment]))).trans (le_sub ⟨rfl,rfl,rfl,rfl,rfl,rfl,trivial⟩ ⟨rfl,rfl,rfl,trivial⟩ rfl rfl rfl (keepLt0 _)),⟨M2,[],0,by omega,by omega,Mem.le.refl _,rfl,(fun x hx=>by cases hx),rfl,rfl⟩⟩,?_⟩
  have a1:=a1.le m2
  rintro m' z ⟨M3,D,k,rfl,hk,hM,hD,hDo,hDv,rfl⟩
  by_cases hlt:k<S.length
  case neg=>
   obtain rfl:k=S.length:=by omega
   have d1:decide ((S.length:Int)<(S.length:Int))=false:=by simp
   rw[List.take_length]at hDv
   refine wT (A10 @rnSt.eq_1 d1 o1 o2 o3 n3 s3 @frC_ment @frC_kill @hasK_nil) ?_
   exact ⟨rnSt M3 ur up us S.length D,le_sub ⟨rfl,rfl,rfl,rfl,rfl,rfl,trivial⟩ ⟨rfl,rfl,rfl,trivial⟩ rfl rfl rfl (keepLt0 _),M3,D,hD,hM,hDo,hDv,rfl⟩
  have d1:decide ((k:Int)<(S.length:Int))=true:=by rw[decide_eq_true_eq];omega
  have q1:(0:Int)≤(k:Int):=by omega
  have q2:(k:Int)<(S.length:Int):=by omega
  have a3:=a1.le hM
  have hs:=hbd _ (List.getElem_mem hlt)
  have htk:S.take (k+1)=S.take k++[S[k]]:=by rw[List.take_add_one,List.getElem?_eq_getElem hlt];rfl
  have wk:IntKind.i64.wrap ((k:Int)+1)=((k+1:Nat):Int):=succ_i (by omega)
  have hlen:=frC_len D
  rw[hD]at hlen
  have hix:∀M',Mem.le M3 M'→_:=fun M' h=>(a3.le h).idx (P:=Tryz.prog) (T:=3) tk3 tz3 (by omega) hlt
  generalize S[k]=s at *
  have hf:=A10 @rnSt.eq_1 d1 o1 o2 o3 n3 s3 @frC_ment @frC_kill @hasK_nil;refine wS ?_;refine kN 86 (rone_ok (fun w1 w2 M4 m4 a4 _ _=>sG ?_));all_goals clear hf
  have m4:Mem.le M3 M4:=m4
  have p1:=a4.n.one
  have p2:=a4.d.one
  refine wG (A8 p1 p2 o1 o2 o3 @frC_ment @frC_kill @hasK_nil) ?_
  refine ⟨fun m z=>∃M' w1 w2 n d j,m=P.length-j∧j≤P.length∧Mem.le M3 M'∧IsF M' w1 w2 (ofN n) (ofN d)∧prodI n d ((facG s 0 P).drop j)=newW P s∧z=rnSt2 M' ur up us w1 w2 k j D,
   ⟨P.length,rnSt2 M4 ur up us w1 w2 k 0 D,le_sub ⟨rfl,rfl,rfl,rfl,rfl,rfl,rfl,rfl,trivial⟩ ⟨rfl,rfl,rfl,rfl,trivial⟩ rfl rfl rfl (keepLt0 _),⟨M4,w1,w2,1,1,0,by omega,by omega,m4,a4,rfl,rfl⟩⟩,?_⟩
  clear p1 p2 a4 m4
  rintro m'' z ⟨M4,w1,w2,n,d,j,rfl,hj,hM4,hw,hv,rfl⟩
  have p1:=hw.n.one
  have p2:=hw.d.one
  by_cases hjt:j<P.length
  case neg=>
   obtain rfl:j=P.length:=by omega
   have g1:decide ((P.length:Int)<(P.length:Int))=false:=by simp
   rw[List.drop_of_length_le (by rw[facG_len];omega),prodI]at hv
   have ap:frC D++[.ext w1,.ext w2]=frC (D++[⟨w1,w2,ofN n,ofN d⟩]):=by simp[frC,FR.c]
   refine wT (A12 @rnSt2.eq_1 g1 p1 p2 ap hlen wk o1 o2 o3 n2 (A4 s2 @frC_ment @frC_kill @hasK_nil)) ?_
   exact ⟨S.length-(k+1),rnSt M4 ur up us (k+1) (D++[⟨w1,w2,ofN n,ofN d⟩]),by omega,le_sub ⟨rfl,rfl,rfl,rfl,rfl,rfl,trivial⟩ ⟨rfl,rfl,rfl,trivial⟩ rfl rfl rfl (keepLt0 _),M4,_,k+1,rfl,by omega,hM.trans hM4,by rw[List.length_append,hD];rfl,(fun x hx=>by
    rcases List.mem_append.1 hx with hx|hx
    ·exact (hDo x hx).le hM4
    ·rw[List.mem_singleton.1 hx];exact hw),by rw[List.map_append,hDv,htk,List.map_append,List.map_append,List.map_cons,List.map_cons,←hv];rfl,rfl⟩
  have g1:decide ((j:Int)<(P.length:Int))=true:=by rw[decide_eq_true_eq];omega
  have q3:(0:Int)≤(j:Int):=by omega
  have q4:(j:Int)<(P.length:Int):=by omega
  have hu2:=(((h2.le m1).le m2).le hM).le hM4
  have hnn:=hu2.nn hjt
  have hat:=hu2.at (P:=Tryz.prog) (T:=32) (fun _=>rfl) tk32 tz32 hjt
  have hF:=(((h3.le m1).le m2).le hM).le hM4 _ (List.getElem_mem hjt)
  have wj:IntKind.i64.wrap ((j:Int)+1)=((j+1:Nat):Int):=succ_i (by omega)
  have htj:=facG_drop s P 0 j hjt
  rw[Nat.zero_add]at htj
  rw[htj,prodI]at hv
  generalize P[j]=x at *
  obtain ⟨x1,x2,y1,y2⟩:=x
  have hat:lookM Tryz.prog 32 M4 (elemP up 2 j)=some (.agg #[x1,x2]):=hat
  have hF:IsF M4 x1 x2 y1 y2:=hF
  have p3:=hF.n.one
  have p4:=hF.d.one
  unfold facE at hv
  have hf:=A12 @rnSt2.eq_1 g1 q3 q4 hnn hat p1 p2 p3 p4 o1 (A7 o2 o3 n2 s2 @frC_ment @frC_kill @hasK_nil);refine wS ?_;refine kN 87 (rRest_ok hF (fun w3 w4 M5 c1 c2 _ _=>sG ?_));all_goals clear hf
  have c1:Mem.le M4 M5:=c1
  have p5:=c2.n.one
  have p6:=c2.d.one
  have f1:=hix M5 (hM4.trans c1)
  have hat5:=lookM_le c1 hat
  cases hb:s.testBit j with
  | true=>
   rw[hb]at hv
   refine Stop.go ?_
   (try with_reducible refine Fz.of ?_);have hf:=A12 f1 @natV.eq_1 q1 q2 q3 q4 hnn hat5 hb p1 p2 (A12 p3 p4 p5 p6 o1 o2 o3 n2 s2 @frC_ment @frC_kill @hasK_nil);refine sF ?_;(repeat' ((first|((with_reducible refine yN ?_);first|refine kS 53 (in_ok s j (by omega) (by omega) ?_)|refine kS 88 (rfmul_ok (hw.le c1) (hF.le c1) (fun v1 v2 M6 g1 g2 g3 _ _=>Stop.mk ?_)))|refine oB ?_|fail)<;>refine sF ?_<;>try with_reducible exact tT))<;>try clear hf
   have g1:Mem.le M5 M6:=g1
   have p7:=g2.one
   have p8:=g3.one
   refine wG (A11 p7 p8 wj o1 o2 o3 n2 s2 @frC_ment @frC_kill @hasK_nil) ?_
   exact ⟨P.length-(j+1),rnSt2 M6 ur up us v1 v2 k (j+1) D,by omega,le_sub ⟨rfl,rfl,rfl,rfl,rfl,rfl,rfl,rfl,trivial⟩ ⟨rfl,rfl,rfl,rfl,trivial⟩ rfl rfl rfl (keepLt0 _),M6,v1,v2,_,_,j+1,rfl,by omega,hM4.trans (c1.trans g1),isF_ofN g2 g3 (mulF_len' _ _ _ _),hv,rfl⟩
  | false=>
   rw[hb]at hv
   refine Stop.go ?_
   (try with_reducible refine Fz.of ?_);have hf:=A12 f1 @natV.eq_1 q1 q2 q3 q4 hnn hat5 hb p1 p2 (A12 p3 p4 p5 p6 o1 o2 o3 n2 s2 @frC_ment @frC_kill @hasK_nil);refine sF ?_;(repeat' ((first|((with_reducible refine yN ?_);first|refine kS 53 (in_ok s j (by omega) (by omega) ?_)|refine kS 88 (rfmul_ok (hw.le c1) c2 (fun v1 v2 M6 g1 g2 g3 _ _=>Stop.mk ?_)))|refine oB ?_|fail)<;>refine sF ?_<;>try with_reducible exact tT))<;>try clear hf
   have g1:Mem.le M5 M6:=g1
   have p7:=g2.one
   have p8:=g3.one
   refine wG (A11 p7 p8 wj o1 o2 o3 n2 s2 @frC_ment @frC_kill @hasK_nil) ?_
   exact ⟨P.length-(j+1),rnSt2 M6 ur up us v1 v2 k (j+1) D,by omega,le_sub ⟨rfl,rfl,rfl,rfl,rfl,rfl,rfl,rfl,trivial⟩ ⟨rfl,rfl,rfl,rfl,trivial⟩ rfl rfl rfl (keepLt0 _),M6,v1,v2,_,_,j+1,rfl,by omega,hM4.trans (c1.trans g1),isF_ofN g2 g3 (mulF_len' _ _ _ _),hv,rfl⟩
 ·rintro z ⟨M3,D,hD,hM2,hDo,hDv,rfl⟩
  have hM:=(m1.trans m2).trans hM2
  refine Fz.flat (k:=11) (n:=S.length) (w:=2) (T:=32) 11 (D.flatMap FR.c) [(8,.ext us),(6,.own 6 0),(3,.own 3 0)] [(6,53,[.ext (.slice none 0 0),.ext (.slice none 0 0),.ext (.slice none 0 0)]),(3,27,[.ext ur])] rfl rfl (by rw[flat_len (z:=2) (f:=FR.c) (fun _=>rfl),hD]) (Nat.zero_le _) ⟨rfl,rfl,rfl,trivial⟩ rfl ⟨rfl,rfl,trivial⟩ rfl (keepLt0 _) (fun j hj _=>absurd hj (Nat.not_lt_zero _)) (fun M4 w hM4 hw _=>?_)
  have hu:IsR M4 2 FR.c w D:=by unfold IsR;rw[hD];exact hw
  have p1:=hu.one
  have hn:=normF_Q hDv
  rw[←hn]at hK
  have hf:=A3 p1 o1 o3;refine wS ?_;refine kN 89 (rwhole_ok hu (hDo.le hM4) (by omega) (fun U M5 c1 c2=>sG ?_));all_goals clear hf
  have c1:Mem.le M4 M5:=c1
  have hM4:Mem.le M3 M4:=hM4
  have p2:U.oneCell'=true:=by obtain ⟨_,h,_,_⟩:=c2;exact h.one
  have m5:Mem.le M M5:=hM.trans (hM4.trans c1)
  unfold okB at hK
  by_cases h0:(normF D).1=0
  case neg=>
   rw[if_neg h0]at hK
   have hk:=hK.err m5
   have d0:decide ((normF D).1=0)=false:=decide_eq_false h0
   refine wG (A5 p1 p2 o1 o3 d0) ?_
   exact hk
  rw[if_pos h0]at hK
  have d0:decide ((normF D).1=0)=true:=decide_eq_true h0
  have a6:=((a1.le m2).le hM2).le (hM4.trans c1)
  have hk:=hK ur us U M5 m5 (h1.le m5) a6 c2
  refine wG (A5 p1 p2 o1 o3 d0) ?_
  exact hk
end
theorem IsL.toNat{M:Mem}{u:Value}{l:List Nat}(h:IsL M intV64 u (l.map fun (x:Nat)=>(x:Int))):IsL M natV u l:=by
 unfold IsL at h ⊢
 rw[List.map_map,List.length_map]at h
 exact h
def mapG{α:Type}(f:α→Int×Nat×Nat):List α→Int×List (Nat×Nat)
 | []=>(0,[])
 | x :: r=>if (f x).1=0 then (if (mapG f r).1=0 then (0,(f x).2 :: (mapG f r).2) else ((mapG f r).1,[])) else ((f x).1,[])
theorem mapG_cons{α:Type}(f:α→Int×Nat×Nat)(x:α)(r:List α):mapG f (x :: r)=if (f x).1=0 then (if (mapG f r).1=0 then (0,(f x).2 :: (mapG f r).2) else ((mapG f r).1,[])) else ((f x).1,[]):=by rw[mapG]
structure MapI {α:Type} (M:Mem) (f:α→Int×Nat×Nat) (L:List α) (D:List FR) (ds:List (Nat×Nat)) (i:Nat):Prop where
 len:D.length=i
 ok:okFL M D
 val:D.map prV=ds.map fun q=>(ofN q.1,ofN q.2)
 rest:mapG f L=if (mapG f (L.drop i)).1=0 then (0,ds++(mapG f (L.drop i)).2) else ((mapG f (L.drop i)).1,[])
theorem MapI.step{α:Type}{M M':Mem}{f:α→Int×Nat×Nat}{i:Nat}{L:List α}{D:List FR}{ds:List (Nat×Nat)}(h:MapI M f L D ds i)(hM:Mem.le M M')(hi:i<L.length){v1 v2:Value}(h0:(f L[i]).1=0)
  (hv:IsF M' v1 v2 (ofN (f L[i]).2.1) (ofN (f L[i]).2.2)) :
  MapI M' f L (D++[⟨v1,v2,ofN (f L[i]).2.1,ofN (f L[i]).2.2⟩]) (ds++[(f L[i]).2]) (i+1):=by
 refine ⟨by rw[List.length_append,h.len];rfl,fun x hx=>?_,by rw[List.map_append,List.map_append,h.val];rfl,?_⟩
 ·rcases List.mem_append.1 hx with hx|hx
  ·exact (h.ok x hx).le hM
  ·rw[List.mem_singleton.1 hx];exact hv
 ·have h1:=h.rest
  rw[List.drop_eq_getElem_cons hi,mapG_cons,if_pos h0]at h1
  rw[h1]
  by_cases h2:(mapG f (L.drop (i+1))).1=0
  ·rw[if_pos h2,if_pos h2];simp
  ·rw[if_neg h2,if_neg h2,if_neg h2]
theorem MapI.stop{α:Type}{M:Mem}{f:α→Int×Nat×Nat}{i:Nat}{L:List α}{D:List FR}{ds:List (Nat×Nat)}(h:MapI M f L D ds i)(hi:i<L.length)(h0:(f L[i]).1≠0):mapG f L=((f L[i]).1,[]):=by
 have h1:=h.rest
 rw[List.drop_eq_getElem_cons hi,mapG_cons,if_neg h0,if_neg h0]at h1
 exact h1
theorem MapI.done{α:Type}{M:Mem}{f:α→Int×Nat×Nat}{L:List α}{D:List FR}{ds:List (Nat×Nat)}(h:MapI M f L D ds L.length):mapG f L=(0,ds):=by
 have h1:=h.rest
 rw[List.drop_length,mapG,if_pos rfl,List.append_nil]at h1
 exact h1
def facU(eff:Nat)(fl dt:LP)(s:Nat):LP:=if eff &&& s=0 then fl else dt
def updF(eff:Nat)(fl dt:LP)(z:FR×Nat):Int×Nat×Nat:=mulF z.1.l1 z.1.l2 (facU eff fl dt z.2).1 (facU eff fl dt z.2).2
def updL(L:List FR)(S:List Nat)(eff:Nat)(fl dt:LP):Int×List (Nat×Nat):=mapG (updF eff fl dt) (L.zip S)
def thenN(l:List Int)(S:List Nat)(r:Int×List (Nat×Nat)):BR:=if r.1=0 then okB l S (normQ r.2) else errB r.1
def BelKH(M:Mem)(H:Hp)(K:AV→Hp→Mem→Prop)(r:BR):Prop:=∀ur us uw M',Mem.le M M'→IsL M' intV64 ur r.l→IsL M' natV us r.s→FQ M' uw r.q→K (.ext (.tuple #[.agg #[ur,us,uw],.int .i64 r.e])) H M'
theorem BelKH.err{M M':Mem}{H:Hp}{K:AV→Hp→Mem→Prop}{e:Int}(h:BelKH M H K (errB e))(hM:Mem.le M M'):K (.ext (.tuple #[.agg #[.slice none 0 0,.slice none 0 0,.slice none 0 0],.int .i64 e])) H M':=
 h _ _ _ M' hM (isL_nil _ _ _) (isL_nil _ _ _) (fq_nil _)
section
variable {M:Mem}{K:AV→Hp→Mem→Prop}{ur us uw x1 x2 y1 y2:Value}{l:List Int}{S:List Nat}{L:List FR}{fl dt:LP}
end
def outF(failed:Bool)(a:LP):LP:=if failed then a else (ofN (othF a.1 a.2).1,ofN (othF a.1 a.2).2)
def toN(s:List Int):List Nat:=s.map Int.toNat
def updB(l s:List Int)(L:List FR)(fl dt:LP)(pool:Int)(failed:Bool):BR:=
 if chkB l s L&&noiF fl.1 fl.2 dt.1 dt.2 then (if setB l pool then thenN l (toN s) (updL L (toN s) (effN l pool.toNat) (outF failed fl) (outF failed dt)) else errB 3) else errB 1
theorem toN_hI(l:List Int)(m:Int):toN (hI l m)=setsL l m:=by
 unfold toN hI
 rw[List.map_map]
 exact List.map_id'' (fun x=>rfl) _
structure ChkB (l s:List Int) (L:List FR):Prop where
 cl:chkL l=true
 cn:s.length=L.length
 cs:s=(toN s).map fun (x:Nat)=>(x:Int)
 cb:∀x∈toN s,x<256
theorem hI_ok{l:List Int}(hc:chkL l=true)(m:Int):hI l m=(toN (hI l m)).map (fun (x:Nat)=>(x:Int))∧∀x∈toN (hI l m),x<256:=by
 refine ⟨by rw[toN_hI];rfl,fun x hx=>?_⟩
 rw[toN_hI]at hx
 unfold setsL at hx
 split at hx
 ·unfold hyps hypTo at hx
  have:=List.mem_range.1 (List.mem_filter.1 hx).1
  have h2:2^l.length≤2^8:=Nat.pow_le_pow_right (by decide) (chk_len hc).2
  omega
 ·cases hx
theorem effG_lt{l:List Int}{p:Nat}(hl:l.length≤8):∀i out rev,i≤8→out<256→effG l p i out rev<256
 | 0,out,_,_,h=>by rw[effG];exact h
 | i+1,out,rev,hi,h=>by
  rw[effG]
  have h2:out ||| 2^i<256:=or_lt8 h (lt_pow8 (by omega))
  (repeat' split)<;>exact effG_lt hl i _ _ (by omega) (by first|exact h|exact h2)
theorem effN_lt{l:List Int}{p:Nat}(hl:chkL l=true):effN l p<256:=effG_lt (chk_len hl).2 _ _ _ (chk_len hl).2 (by decide)
section
variable {M:Mem}{K:AV→Hp→Mem→Prop}{ur us uw x1 x2 y1 y2:Value}{l s:List Int}{L:List FR}{fl dt:LP}
end
section
variable {M:Mem}{K:AV→Hp→Mem→Prop}{ur us uw x1 x2 y1 y2:Value}{l s:List Int}{S:List Nat}{L:List FR}{fl dt:LP}
end
theorem wN_pow2(i:Nat):wN i=2^(32*i):=by unfold wN;rw[Nat.pow_mul]
section
variable {M:Mem}{K:AV→Hp→Mem→Prop}{u1 u2 v1 v2:Value}{l1 l2 k1 k2:List Nat}
theorem sameFrac_ok(h1:IsL M u32V u1 l1)(h2:IsL M u32V u2 l2)(k1:IsL M u32V v1 l1)(k2:IsL M u32V v2 l2)(b1:l1.length<1000000000)(b2:l2.length<1000000000)(hK:K (.ext (.bool true)) [] M):CallS Tryz.prog 30 [.ext (.agg #[u1,u2]),.ext (.agg #[v1,v2])] [] M [] K:=by
 refine inlS (cs:=[]) Tryz.mixed Tryz.func30 rfl (by kernel_rfl) 0 rfl rfl ?_
 simp only[Tryz.f30]
 have hf:=A4 h1.one h2.one k1.one k2.one;refine sF ?_;(repeat' ((first|((with_reducible refine yN ?_);first|refine kS 61 (sameNat_ok u1 v1 l1 h1 k1 b1 ?_)|refine kS 61 (sameNat_ok u2 v2 l2 h2 k2 b2 ?_))|refine oB ?_|fail)<;>refine sF ?_<;>try with_reducible exact tT))<;>try clear hf
 exact hK
end
theorem FQ.one{M:Mem}{u:Value}{qs:List (Nat×Nat)}(h:FQ M u qs):u.oneCell'=true:=by obtain ⟨_,h,_,_⟩:=h;exact h.one
structure IsB (M:Mem) (ur us uw:Value) (l:List Int) (s:List Nat) (q:List (Nat×Nat)):Prop where
 l:IsL M intV64 ur l
 s:IsL M natV us s
 q:FQ M uw q
theorem IsB.le{M M':Mem}{ur us uw:Value}{l:List Int}{s:List Nat}{q:List (Nat×Nat)}(h:IsB M ur us uw l s q)(hM:Mem.le M M'):IsB M' ur us uw l s q:=⟨h.l.le hM,h.s.le hM,h.q.le hM⟩
section
variable {M:Mem}{K:AV→Hp→Mem→Prop}{ur us uw vr vs vw:Value}{l:List Int}{s:List Nat}{q:List (Nat×Nat)}
end
section
variable {M:Mem}{K:AV→Hp→Mem→Prop}{u v:Value}{l1 l2:List Nat}
end
section
variable {M:Mem}{K:AV→Hp→Mem→Prop}{u v:Value}{l1 l2:List Nat}
end
section
variable {M:Mem}{K:AV→Hp→Mem→Prop}{u1 u2:Value}{l1 l2:List Nat}
end
section
variable {M:Mem}{K:AV→Hp→Mem→Prop}
end
theorem exF_eq{x y n d:Nat}(h0:0<y)(hd:0<d)(h:x*d=n*y)(hg:Nat.gcd n d=1)(h1:(ofN n).length≤128)(h2:(ofN d).length≤128):exF x y=(0,n,d):=by
 have hdv:d∣y:=(Nat.Coprime.symm hg).dvd_of_dvd_mul_left ⟨x,by rw[←h,Nat.mul_comm]⟩
 obtain ⟨k,rfl⟩:=hdv
 have hx:x=n*k:=by
  refine Nat.eq_of_mul_eq_mul_right hd ?_
  rw[h];grind
 subst hx
 have hk:0<k:=Nat.pos_of_mul_pos_left h0
 have hgk:Nat.gcd (n*k) (d*k)=k:=by rw[Nat.gcd_mul_right,hg,Nat.one_mul]
 unfold exF
 rw[hgk,Nat.mul_div_cancel _ hk,Nat.mul_div_cancel _ hk,if_pos ⟨h1,h2⟩]
theorem mulF_of{n1 d1 n2 d2:Nat}(h1:chkF (ofN n1) (ofN d1)=true)(h2:chkF (ofN n2) (ofN d2)=true):mulF (ofN n1) (ofN d1) (ofN n2) (ofN d2)=exF (n1*n2) (d1*d2):=by
 unfold mulF;rw[h1,h2,Bool.and_self,if_pos rfl,valN_ofN,valN_ofN,valN_ofN,valN_ofN]
theorem addF_of{n1 d1 n2 d2:Nat}(h1:chkF (ofN n1) (ofN d1)=true)(h2:chkF (ofN n2) (ofN d2)=true):addF (ofN n1) (ofN d1) (ofN n2) (ofN d2)=exF (n1*d2+n2*d1) (d1*d2):=by
 unfold addF;rw[h1,h2,Bool.and_self,if_pos rfl,valN_ofN,valN_ofN,valN_ofN,valN_ofN]
theorem divF_of{n1 d1 n2 d2:Nat}(h1:chkF (ofN n1) (ofN d1)=true)(h2:chkF (ofN n2) (ofN d2)=true)(h0:0<n2):divF (ofN n1) (ofN d1) (ofN n2) (ofN d2)=exF (n1*d2) (n2*d1):=by
 unfold divF;rw[h1,h2,Bool.and_self,if_pos rfl,valN_ofN,valN_ofN,valN_ofN,valN_ofN,if_neg (by omega)]
theorem subF_of{n1 d1 n2 d2:Nat}(h1:chkF (ofN n1) (ofN d1)=true)(h2:chkF (ofN n2) (ofN d2)=true)(h0:n2*d1≤n1*d2):subF (ofN n1) (ofN d1) (ofN n2) (ofN d2)=exF (n1*d2-n2*d1) (d1*d2):=by
 unfold subF;rw[h1,h2,Bool.and_self,if_pos rfl,valN_ofN,valN_ofN,valN_ofN,valN_ofN,if_neg (by omega)]
theorem cmpF_of{n1 d1 n2 d2:Nat}(h1:chkF (ofN n1) (ofN d1)=true)(h2:chkF (ofN n2) (ofN d2)=true):cmpF (ofN n1) (ofN d1) (ofN n2) (ofN d2)=cmpN (n1*d2) (n2*d1):=by
 unfold cmpF;rw[h1,h2,Bool.and_self,if_pos rfl,valN_ofN,valN_ofN,valN_ofN,valN_ofN]
theorem cmpN_le{x y:Nat}(h:x≤y):decide (cmpN x y≤0)=true:=by
 rw[decide_eq_true_eq];unfold cmpN
 split
 ·omega
 ·rw[if_pos (by omega)];omega
set_option exponentiation.threshold 5000
def red(x d:Nat):Nat×Nat:=(x / Nat.gcd x d,d / Nat.gcd x d)
def Sm(x:Nat):Prop:=x<2^4000
theorem Sm.le{x y:Nat}(h:Sm x)(hy:y≤x):Sm y:=Nat.lt_of_le_of_lt hy h
theorem Sm.len{x:Nat}(h:Sm x):(ofN x).length≤128:=ofN_len_le (by
 rw[wN_pow2]
 exact Nat.lt_of_lt_of_le h (Nat.pow_le_pow_right (by decide) (by decide)))
structure RedP (x d:Nat):Prop where
 eq:(red x d).1*d=x*(red x d).2
 gcd:Nat.gcd (red x d).1 (red x d).2=1
 pos:0<(red x d).2
 le1:(red x d).1≤x
 le2:(red x d).2≤d
theorem red_p{x d:Nat}(h:0<d):RedP x d:=by
 have hg:0<Nat.gcd x d:=Nat.gcd_pos_of_pos_right _ h
 refine ⟨?_,Nat.gcd_div_gcd_div_gcd_of_pos_right h,Nat.div_pos (Nat.gcd_le_right x h) hg,Nat.div_le_self _ _,Nat.div_le_self _ _⟩
 unfold red
 have h1:=Nat.div_mul_cancel (Nat.gcd_dvd_left x d)
 have h2:=Nat.div_mul_cancel (Nat.gcd_dvd_right x d)
 generalize x / Nat.gcd x d=a at *
 generalize d / Nat.gcd x d=b at *
 generalize Nat.gcd x d=g at *
 subst h1 h2
 grind
theorem red_num{x d:Nat}(h:0<d)(hx:0<x):0<(red x d).1:=by
 have h1:=(red_p (x:=x) h).eq
 rcases Nat.eq_zero_or_pos (red x d).1 with h0|h0
 ·rw[h0,Nat.zero_mul]at h1
  have:=Nat.mul_pos hx (red_p (x:=x) h).pos
  omega
 ·exact h0
theorem chk_of{n d:Nat}(h1:Sm n)(h2:Sm d)(h0:0<d)(hg:Nat.gcd n d=1):chkF (ofN n) (ofN d)=true:=by
 unfold chkF
 rw[chkN_ofN h1.len,chkN_ofN h2.len,valN_ofN,valN_ofN,hg,decide_eq_false (by omega)]
 rfl
theorem chk_red{x d:Nat}(hx:Sm x)(hd:Sm d)(h0:0<d):chkF (ofN (red x d).1) (ofN (red x d).2)=true:=by
 have h:=red_p (x:=x) h0
 exact chk_of (hx.le h.le1) (hd.le h.le2) h.pos h.gcd
theorem ex_red{a b x d:Nat}(hb:0<b)(hd:0<d)(h:a*d=x*b)(hx:Sm x)(hds:Sm d):exF a b=(0,red x d):=by
 have hr:=red_p (x:=x) hd
 have he:a*(red x d).2=(red x d).1*b:=by
  refine Nat.eq_of_mul_eq_mul_right hd ?_
  calc a*(red x d).2*d=(a*d)*(red x d).2:=by grind
   _=x*b*(red x d).2:=by rw[h]
   _=(x*(red x d).2)*b:=by grind
   _=(red x d).1*d*b:=by rw[hr.eq]
   _=(red x d).1*b*d:=by grind
 rw[exF_eq hb hr.pos he hr.gcd (hx.le hr.le1).len (hds.le hr.le2).len]
theorem red_zero{d:Nat}(h:0<d):red 0 d=(0,1):=by
 unfold red
 rw[Nat.gcd_zero_left,Nat.zero_div,Nat.div_self h]
theorem red_self{d:Nat}(h:0<d):red d d=(1,1):=by
 unfold red
 rw[Nat.gcd_self,Nat.div_self h]
theorem add_red{a x d:Nat}(hd:0<d)(hds:Sm d)(hs:Sm (a+x)):addF (ofN (red a d).1) (ofN (red a d).2) (ofN (red x d).1) (ofN (red x d).2)=(0,red (a+x) d):=by
 have h1:=red_p (x:=a) hd
 have h2:=red_p (x:=x) hd
 rw[addF_of (chk_red (hs.le (by omega)) hds hd) (chk_red (hs.le (by omega)) hds hd)]
 refine ex_red (Nat.mul_pos h1.pos h2.pos) hd ?_ hs hds
 have e1:=h1.eq
 have e2:=h2.eq
 generalize (red a d).1=n1 at *
 generalize (red a d).2=d1 at *
 generalize (red x d).1=n2 at *
 generalize (red x d).2=d2 at *
 calc (n1*d2+n2*d1)*d=(n1*d)*d2+(n2*d)*d1:=by grind
  _=a*d1*d2+x*d2*d1:=by rw[e1,e2]
  _=(a+x)*(d1*d2):=by grind
def lsum:List Nat→Nat
 | []=>0
 | x :: r=>x+lsum r
theorem sumG_red{d:Nat}(hd:0<d)(hds:Sm d):∀(X:List Nat) (a:Nat),Sm (a+lsum X)→sumG (red a d).1 (red a d).2 ((X.map fun x=>red x d).map qFR)=(0,red (a+lsum X) d)
 | [],a,_=>rfl
 | x :: r,a,h=>by
  rw[List.map_cons,List.map_cons,sumG_cons]
  have h1:Sm (a+x):=h.le (by rw[lsum];omega)
  have h2:=add_red (a:=a) (x:=x) hd hds h1
  show (if (addF (ofN (red a d).1) (ofN (red a d).2) (ofN (red x d).1) (ofN (red x d).2)).1=0 then _ else _)=_
  rw[show (qFR (red x d)).l1=ofN (red x d).1 from rfl,show (qFR (red x d)).l2=ofN (red x d).2 from rfl,h2,if_pos rfl,sumG_red hd hds r (a+x) (by rw[Nat.add_assoc];exact h),Nat.add_assoc]
  rfl
theorem lsum_mem:∀{X:List Nat} {x:Nat},x∈X→x≤lsum X
 | y :: r,x,h=>by
  rw[lsum]
  rcases List.mem_cons.1 h with h|h
  ·omega
  ·have:=lsum_mem h;omega
theorem sumF_red{d:Nat}(hd:0<d)(hds:Sm d){X:List Nat}(hs:Sm (lsum X)):sumF ((X.map fun x=>red x d).map qFR)=(0,red (lsum X) d):=by
 unfold sumF
 rw[if_pos (by
  rw[List.all_eq_true]
  intro x hx
  obtain ⟨q,hq,rfl⟩:=List.mem_map.1 hx
  obtain ⟨y,hy,rfl⟩:=List.mem_map.1 hq
  exact chk_red (hs.le (lsum_mem hy)) hds hd)]
 have:=sumG_red hd hds X 0 (by rw[Nat.zero_add];exact hs)
 rw[red_zero hd,Nat.zero_add]at this
 exact this
theorem div_red{x s d:Nat}(hd:0<d)(hs0:0<s)(hds:Sm d)(hx:Sm x)(hs:Sm s):divF (ofN (red x d).1) (ofN (red x d).2) (ofN (red s d).1) (ofN (red s d).2)=(0,red x s):=by
 have h1:=red_p (x:=x) hd
 have h2:=red_p (x:=s) hd
 have h3:=red_num hd hs0
 rw[divF_of (chk_red hx hds hd) (chk_red hs hds hd) h3]
 refine ex_red (Nat.mul_pos h3 h1.pos) hs0 ?_ hx hs
 have e1:=h1.eq
 have e2:=h2.eq
 generalize (red x d).1=n1 at *
 generalize (red x d).2=d1 at *
 generalize (red s d).1=n2 at *
 generalize (red s d).2=d2 at *
 refine Nat.eq_of_mul_eq_mul_right hd ?_
 calc n1*d2*s*d=(n1*d)*(s*d2):=by grind
  _=x*d1*(n2*d):=by rw[e1,e2]
  _=x*(n2*d1)*d:=by grind
theorem divG_red{s d:Nat}(hd:0<d)(hs0:0<s)(hds:Sm d)(hs:Sm s):∀(X:List Nat),(∀x∈X,x≤s)→divG (red s d).1 (red s d).2 ((X.map fun x=>red x d).map qFR)=(0,X.map fun x=>red x s)
 | [],_=>rfl
 | x :: r,h=>by
  have ih:=divG_red hd hs0 hds hs r fun y hy=>h y (List.mem_cons_of_mem _ hy)
  have hx:=h x (List.mem_cons_self ..)
  rw[List.map_cons,List.map_cons,divG_cons,ih,show (qFR (red x d)).l1=ofN (red x d).1 from rfl,show (qFR (red x d)).l2=ofN (red x d).2 from rfl,div_red hd hs0 hds (hs.le hx) hs]
  rfl
theorem normQ_red{d:Nat}(hd:0<d)(hds:Sm d){X:List Nat}(hs:Sm (lsum X))(h0:0<lsum X):normQ (X.map fun x=>red x d)=(0,X.map fun x=>red x (lsum X)):=by
 unfold normQ normF
 rw[sumF_red hd hds hs,if_pos rfl]
 exact divG_red hd h0 hds hs X fun x hx=>lsum_mem hx
structure BX (l:List Int) (s:List Nat) (q:List (Nat×Nat)) (b:Nat):Prop where
 cl:chkL l=true
 st:∃m:Int,(m=1∨m=2)∧s=setsL l m
 ex:∃X:List Nat,q=(X.map fun x=>red x (lsum X))∧X.length=s.length∧(∀x∈X,0<x)∧0<lsum X∧lsum X≤b
theorem cmp_11:cmpF (ofN 1) (ofN 1) (ofN 1) (ofN 1)=0:=by decide +kernel
theorem BX.chk{l:List Int}{s:List Nat}{q:List (Nat×Nat)}{b:Nat}(h:BX l s q b)(hb:Sm b){L:List FR}(hL:L.map prV=q.map fun q=>(ofN q.1,ofN q.2)):chkB l (s.map fun (x:Nat)=>(x:Int)) L=true:=by
 obtain ⟨m,hm,hs⟩:=h.st
 obtain ⟨X,hq,hn,hx,h0,hle⟩:=h.ex
 have hsm:=hb.le hle
 have hlq:L.length=q.length:=by have:=congrArg List.length hL;simpa using this
 have hLq:L.map prV=(q.map qFR).map prV:=by rw[hL,List.map_map];rfl
 have h1:chkS l (s.map fun (x:Nat)=>(x:Int))=true:=by
  unfold chkS
  rw[Bool.or_eq_true,decide_eq_true_eq,decide_eq_true_eq,hs]
  rcases hm with rfl|rfl
  ·exact .inl rfl
  ·exact .inr rfl
 have h2:L.all (fun x=>posF x.l1 x.l2)=true:=by
  rw[all_cong posF L _ hLq,hq,List.all_eq_true]
  intro x hx'
  obtain ⟨p,hp,rfl⟩:=List.mem_map.1 hx'
  obtain ⟨y,hy,rfl⟩:=List.mem_map.1 hp
  show posF (ofN (red y (lsum X)).1) (ofN (red y (lsum X)).2)=true
  unfold posF
  rw[chk_red (hsm.le (lsum_mem hy)) hsm h0,Bool.true_and,decide_eq_true_eq]
  have:=red_num h0 (hx y hy)
  rcases Nat.eq_zero_or_pos (ofN (red y (lsum X)).1).length with e|e
  ·have e2:=(nil_iff (l:=ofN (red y (lsum X)).1) (by rw[valN_ofN])).1 e
   rw[valN_ofN]at e2;omega
  ·exact e
 have h3:oneS L=true:=by
  unfold oneS
  rw[sumF_cong hLq,hq,sumF_red h0 hsm hsm,red_self h0,cmp_11]
  rfl
 unfold chkB
 rw[h.cl,h1,h2,h3,List.length_map,hlq,hq,List.length_map,hn,decide_eq_true rfl]
 rfl
structure Cha (a:LP) (n d:Nat):Prop where
 eq:a=(ofN n,ofN d)
 n0:0<n
 lt:n<d
 le:d≤1000
 gcd:Nat.gcd n d=1
theorem sm1000{n:Nat}(h:n≤1000000000000):Sm n:=Nat.lt_of_le_of_lt h (by
 have:2^40≤2^4000:=Nat.pow_le_pow_right (by decide) (by decide)
 omega)
theorem Cha.chk{a:LP}{n d:Nat}(h:Cha a n d):chkF (ofN n) (ofN d)=true:=by
 have:=h.lt
 have:=h.le
 exact chk_of (sm1000 (by omega)) (sm1000 (by omega)) (by omega) h.gcd
theorem gcd_comp{n d:Nat}(h:n≤d)(hg:Nat.gcd n d=1):Nat.gcd (d-n) d=1:=by
 rw[Nat.gcd_comm,Nat.gcd_comm]at *
 have h1:Nat.gcd (d-n) d∣n:=by
  have h2:=Nat.gcd_dvd_left (d-n) d
  have h3:=Nat.gcd_dvd_right (d-n) d
  have:=Nat.dvd_sub h3 h2
  rwa[show d-(d-n)=n by omega]at this
 have h4:Nat.gcd (d-n) d∣Nat.gcd n d:=Nat.dvd_gcd h1 (Nat.gcd_dvd_right _ _)
 first
  | (rw[hg]at h4;exact Nat.dvd_one.1 h4)
  | (rw[Nat.gcd_comm]at hg;rw[hg]at h4;exact Nat.dvd_one.1 h4)
theorem Cha.oth{a:LP}{n d:Nat}(h:Cha a n d):Cha (ofN (othF a.1 a.2).1,ofN (othF a.1 a.2).2) (d-n) d:=by
 have h1:=h.lt
 have h2:=h.le
 have h0:=h.n0
 have hg:=gcd_comp (Nat.le_of_lt h1) h.gcd
 have hs:subF (ofN 1) (ofN 1) (ofN n) (ofN d)=(0,d-n,d):=by
  rw[subF_of (by decide +kernel) h.chk (by omega),Nat.one_mul,Nat.mul_one]
  exact exF_eq (by omega) (by omega) rfl hg (sm1000 (by omega)).len (sm1000 (by omega)).len
 refine ⟨?_,by omega,by omega,h2,hg⟩
 rw[h.eq]
 unfold othF
 rw[hs]
def opN(p:Nat×Nat):LP:=(ofN p.1,ofN p.2)
def OkN(p:Nat×Nat):Prop:=0<p.1∧p.1<p.2∧p.2≤1000∧Nat.gcd p.1 p.2=1
theorem Cha.okn{a:LP}{n d:Nat}(h:Cha a n d):OkN (n,d)∧a=opN (n,d):=⟨⟨h.n0,h.lt,h.le,h.gcd⟩,h.eq⟩
theorem OkN.cha{p:Nat×Nat}(h:OkN p):Cha (opN p) p.1 p.2:=⟨rfl,h.1,h.2.1,h.2.2.1,h.2.2.2⟩
def pn:List (Nat×Nat)→Nat
 | []=>1
 | p :: r=>p.1*pn r
def pd:List (Nat×Nat)→Nat
 | []=>1
 | p :: r=>p.2*pd r
theorem pn_pos:∀{N:List (Nat×Nat)},(∀p∈N,OkN p)→0<pn N
 | [],_=>by decide
 | p :: r,h=>Nat.mul_pos (h p (List.mem_cons_self ..)).1 (pn_pos fun q hq=>h q (List.mem_cons_of_mem _ hq))
theorem pd_pos:∀{N:List (Nat×Nat)},(∀p∈N,OkN p)→0<pd N
 | [],_=>by decide
 | p :: r,h=>Nat.mul_pos (by have:=h p (List.mem_cons_self ..);have:=this.1;have:=(h p (List.mem_cons_self ..)).2.1;omega) (pd_pos fun q hq=>h q (List.mem_cons_of_mem _ hq))
theorem pn_le:∀{N:List (Nat×Nat)},(∀p∈N,OkN p)→pn N≤pd N
 | [],_=>by decide
 | p :: r,h=>Nat.mul_le_mul (Nat.le_of_lt (h p (List.mem_cons_self ..)).2.1) (pn_le fun q hq=>h q (List.mem_cons_of_mem _ hq))
theorem pd_le:∀{N:List (Nat×Nat)},(∀p∈N,OkN p)→pd N≤1000^N.length
 | [],_=>by decide
 | p :: r,h=>by
  rw[pd,List.length_cons,Nat.pow_succ,Nat.mul_comm]
  exact Nat.mul_le_mul (pd_le fun q hq=>h q (List.mem_cons_of_mem _ hq)) (h p (List.mem_cons_self ..)).2.2.1
theorem mul_redN{x d:Nat}{p:Nat×Nat}{y e:Nat}(hp:OkN p)(hd:0<d)(hx:Sm x)(hds:Sm d)(he:0<e)(h:x*p.1*e=y*(d*p.2))(hy:Sm y)(hes:Sm e) :
  mulF (ofN (red x d).1) (ofN (red x d).2) (opN p).1 (opN p).2=(0,red y e):=by
 have h1:=red_p (x:=x) hd
 have h0:=hp.1
 have h2:=hp.2.1
 unfold opN
 rw[mulF_of (chk_red hx hds hd) hp.cha.chk]
 refine ex_red (Nat.mul_pos h1.pos (by omega)) he ?_ hy hes
 have e1:=h1.eq
 generalize (red x d).1=n1 at *
 generalize (red x d).2=d1 at *
 refine Nat.eq_of_mul_eq_mul_right hd ?_
 calc n1*p.1*e*d=(n1*d)*p.1*e:=by grind
  _=(x*p.1*e)*d1:=by rw[e1];grind
  _=y*(d*p.2)*d1:=by rw[h]
  _=y*(d1*p.2)*d:=by grind
theorem prodV_red:∀(N:List (Nat×Nat)) (n d:Nat),(∀p∈N,OkN p)→0<d→Sm (n*pn N)→Sm (d*pd N)→prodV (red n d).1 (red n d).2 (N.map opN)=(0,red (n*pn N) (d*pd N))
 | [],n,d,_,_,_,_=>by rw[pn,pd,Nat.mul_one,Nat.mul_one];rfl
 | p :: r,n,d,h,hd,hn,hs=>by
  have hp:=h p (List.mem_cons_self ..)
  have h0:=hp.1
  have h2:=hp.2.1
  have hr:=fun q hq=>h q (List.mem_cons_of_mem _ hq)
  have p1:=pn_pos hr
  have p2:=pd_pos hr
  rw[pn,←Nat.mul_assoc]at hn
  rw[pd,←Nat.mul_assoc]at hs
  have q1:Sm (n*p.1):=hn.le (Nat.le_mul_of_pos_right _ p1)
  have q2:Sm (d*p.2):=hs.le (Nat.le_mul_of_pos_right _ p2)
  have hm:=mul_redN (x:=n) (d:=d) (y:=n*p.1) (e:=d*p.2) hp hd (q1.le (Nat.le_mul_of_pos_right _ h0)) (q2.le (Nat.le_mul_of_pos_right _ (by omega))) (Nat.mul_pos hd (by omega)) rfl q1 q2
  rw[List.map_cons,prodV,hm,if_pos rfl,prodV_red r _ _ hr (Nat.mul_pos hd (by omega)) hn hs,pn,pd,Nat.mul_assoc,Nat.mul_assoc]
def facN(s:Nat):Nat→List (Nat×Nat)→List (Nat×Nat)
 | _,[]=>[]
 | j,p :: r=>(if s.testBit j then p else (p.2-p.1,p.2)) :: facN s (j+1) r
theorem OkN.oth{p:Nat×Nat}(h:OkN p):OkN (p.2-p.1,p.2):=(h.cha.oth).okn.1
theorem facN_ok(s:Nat):∀(N:List (Nat×Nat)) (j:Nat),(∀p∈N,OkN p)→∀p∈facN s j N,OkN p
 | [],_,_,p,h=>by cases h
 | q :: r,j,hN,p,h=>by
  rw[facN]at h
  rcases List.mem_cons.1 h with h|h
  ·rw[h]
   have:=hN q (List.mem_cons_self ..)
   split
   ·exact this
   ·exact this.oth
  ·exact facN_ok s r (j+1) (fun q hq=>hN q (List.mem_cons_of_mem _ hq)) p h
theorem facN_pd(s:Nat):∀(N:List (Nat×Nat)) (j:Nat),pd (facN s j N)=pd N
 | [],_=>rfl
 | q :: r,j=>by
  rw[facN,pd,pd,facN_pd s r]
  split<;>rfl
theorem facG_N(s:Nat):∀(P:List FR) (N:List (Nat×Nat)) (j:Nat),P.map prV=N.map opN→(∀p∈N,OkN p)→facG s j P=(facN s j N).map opN
 | [],[],_,_,_=>rfl
 | [],_ :: _,_,h,_=>by simp at h
 | _ :: _,[],_,h,_=>by simp at h
 | x :: r,p :: q,j,h,hN=>by
  rw[List.map_cons,List.map_cons,List.cons.injEq]at h
  have hp:=hN p (List.mem_cons_self ..)
  have h1:x.l1=ofN p.1∧x.l2=ofN p.2:=Prod.mk.injEq ..▸h.1
  rw[facG,facN,List.map_cons,facG_N s r q (j+1) h.2 fun q hq=>hN q (List.mem_cons_of_mem _ hq)]
  congr 1
  unfold facE
  split
  ·exact h.1
  ·have:=hp.cha.oth.eq
   rw[h1.1,h1.2]
   exact this
theorem newW_red{P:List FR}{N:List (Nat×Nat)}(h:P.map prV=N.map opN)(hN:∀p∈N,OkN p)(hl:N.length≤8)(s:Nat):(prodV 1 1 (facG s 0 P)).1=0∧newW P s=red (pn (facN s 0 N)) (pd N):=by
 have hok:=facN_ok s N 0 hN
 have h1:pd N≤1000^8:=Nat.le_trans (pd_le hN) (Nat.pow_le_pow_right (by decide) hl)
 have h8:Sm (1000^8):=Nat.lt_of_lt_of_le (show 1000^8<2^100 by decide) (Nat.pow_le_pow_right (by decide) (by decide))
 have h2:=pn_le hok
 rw[facN_pd]at h2
 have hv:=prodV_red (facN s 0 N) 1 1 hok (by decide) (h8.le (by omega)) (h8.le (by rw[facN_pd];omega))
 rw[red_self (by decide),←facG_N s P N 0 h hN,Nat.one_mul,Nat.one_mul,facN_pd]at hv
 refine ⟨by rw[hv],?_⟩
 have hI:=prodV_I _ _ _ (show (prodV 1 1 (facG s 0 P)).1=0 by rw[hv])
 rw[hv]at hI
 exact (congrArg Prod.snd hI).symm
theorem cmpF_N{a b:Nat×Nat}(h1:OkN a)(h2:OkN b):cmpF (ofN a.1) (ofN a.2) (ofN b.1) (ofN b.2)=cmpN (a.1*b.2) (b.1*a.2):=cmpF_of h1.cha.chk h2.cha.chk
theorem cmpF_1{a:Nat×Nat}(h1:OkN a):cmpF (ofN a.1) (ofN a.2) (ofN 1) (ofN 1)=-1:=by
 rw[cmpF_of h1.cha.chk (by decide +kernel),Nat.mul_one,Nat.one_mul]
 exact cmpN_lt h1.2.1
theorem OkN.chaF{a:Nat×Nat}(h:OkN a):chaF (ofN a.1) (ofN a.2)=true:=by
 unfold Sx.chaF
 have h3:=h.2.2.1
 have hl:(ofN a.2).length≤128:=(sm1000 (by omega)).len
 rw[h.cha.chk,cmpF_1 h]
 unfold cmpR
 rw[chkN_ofN hl,chkN_ofN (sm1000 (by decide)).len,valN_ofN,valN_ofN,Bool.and_self,if_pos rfl,cmpN_le (by omega)]
 rfl
theorem ofN_pos'{n:Nat}(h:0<n):decide (0<(ofN n).length)=true:=by
 rw[decide_eq_true_eq]
 rcases Nat.eq_zero_or_pos (ofN n).length with e|e
 ·have e2:=(nil_iff (l:=ofN n) (by rw[valN_ofN])).1 e
  rw[valN_ofN]at e2;omega
 ·exact e
theorem OkN.innF{a:Nat×Nat}(h:OkN a):innF (ofN a.1) (ofN a.2)=true:=by
 unfold Sx.innF
 rw[h.chaF,ofN_pos' h.1,cmpF_1 h]
 rfl
theorem noiF_N{a b:Nat×Nat}(h1:OkN a)(h2:OkN b)(h:a.1*b.2<b.1*a.2):noiF (ofN a.1) (ofN a.2) (ofN b.1) (ofN b.2)=true:=by
 unfold noiF
 rw[h1.chaF,h2.chaF,ofN_pos' h1.1,cmpF_N h1 h2,cmpF_1 h2,cmpN_lt h]
 rfl
theorem setsL_one{l:List Int}{m:Int}(hc:chkL l=true)(hm:m=1∨m=2):1∈setsL l m:=by
 have hl:=chk_len hc
 have he:setsE l m=0:=by
  unfold setsE
  rw[if_pos hc,if_pos]
  rw[decide_eq_true_eq];omega
 unfold setsL
 rw[if_pos he]
 unfold hyps hypTo
 rw[List.mem_filter,List.mem_range]
 have h2:2^1≤2^l.length:=Nat.pow_le_pow_right (by decide) hl.1
 exact ⟨by omega,by rcases hm with rfl|rfl<;>rfl⟩
theorem setsL_len{l:List Int}{m:Int}(hc:chkL l=true):(setsL l m).length≤256:=by
 unfold setsL
 split
 ·have:=hypTo_len m.toNat (2^l.length)
  have h2:2^l.length≤2^8:=Nat.pow_le_pow_right (by decide) (chk_len hc).2
  unfold hyps
  omega
 ·exact Nat.zero_le _
theorem lsum_le{b:Nat}:∀{X:List Nat},(∀x∈X,x≤b)→lsum X≤X.length*b
 | [],_=>Nat.zero_le _
 | x :: r,h=>by
  rw[lsum,List.length_cons,Nat.succ_mul]
  have:=h x (List.mem_cons_self ..)
  have:=lsum_le (b:=b) fun y hy=>h y (List.mem_cons_of_mem _ hy)
  omega
def b0:Nat:=256*1000^8
def mulX(eff:Nat)(f g:Nat×Nat):List Nat→List Nat→List Nat
 | x :: r,s :: t=>(if eff &&& s=0 then x*f.1*g.2 else x*g.1*f.2) :: mulX eff f g r t
 | _,_=>[]
theorem mulX_len{eff:Nat}{f g:Nat×Nat}:∀{X S:List Nat},X.length=S.length→(mulX eff f g X S).length=S.length
 | [],[],_=>rfl
 | x :: r,s :: t,h=>by rw[mulX,List.length_cons,List.length_cons,mulX_len (by simpa using h)]
theorem mulX_pos{eff:Nat}{f g:Nat×Nat}(hf:OkN f)(hg:OkN g):∀{X S:List Nat},(∀x∈X,0<x)→∀y∈mulX eff f g X S,0<y
 | [],_,_,y,h=>by rw[mulX]at h;cases h;simp
 | _ :: _,[],_,y,h=>by rw[mulX]at h;cases h;simp
 | x :: r,s :: t,hX,y,h=>by
  rw[mulX]at h
  have hx:=hX x (List.mem_cons_self ..)
  have f1:=hf.1
  have f2:=hf.2.1
  have g1:=hg.1
  have g2:=hg.2.1
  rcases List.mem_cons.1 h with h|h
  ·rw[h]
   split
   ·exact Nat.mul_pos (Nat.mul_pos hx f1) (by omega)
   ·exact Nat.mul_pos (Nat.mul_pos hx g1) (by omega)
  ·exact mulX_pos hf hg (fun z hz=>hX z (List.mem_cons_of_mem _ hz)) y h
theorem OkN.le1{f:Nat×Nat}(h:OkN f):f.1≤1000∧f.2≤1000:=⟨by have:=h.2.1;have:=h.2.2.1;omega,h.2.2.1⟩
theorem mul_le6{x a b:Nat}(ha:a≤1000)(hb:b≤1000):x*a*b≤x*1000000:=by
 rw[Nat.mul_assoc]
 exact Nat.mul_le_mul_left _ (Nat.le_trans (Nat.mul_le_mul ha hb) (by decide))
theorem mulX_le{eff:Nat}{f g:Nat×Nat}(hf:OkN f)(hg:OkN g):∀{X S:List Nat},lsum (mulX eff f g X S)≤lsum X*1000000
 | [],_=>by rw[mulX]<;>simp[lsum]
 | _ :: _,[]=>by rw[mulX]<;>simp[lsum]
 | x :: r,s :: t=>by
  rw[mulX,lsum,lsum,Nat.add_mul]
  have ih:=mulX_le (eff:=eff) hf hg (X:=r) (S:=t)
  have h1:=mul_le6 (x:=x) hf.le1.1 hg.le1.2
  have h2:=mul_le6 (x:=x) hg.le1.1 hf.le1.2
  split<;>omega
theorem updL_law{eff s0:Nat}{f g:Nat×Nat}(hf:OkN f)(hg:OkN g)(h0:0<s0)(hsm:Sm (s0*1000000)):∀(X S:List Nat) (L:List FR),X.length=S.length→(∀x∈X,x≤s0)→L.map prV=(X.map fun x=>red x s0).map (fun q=>(ofN q.1,ofN q.2))→
  updL L S eff (opN f) (opN g)=(0,(mulX eff f g X S).map fun x=>red x (s0*f.2*g.2))
 | [],[],[],_,_,_=>rfl
 | [],[],_ :: _,_,_,h=>by simp at h
 | _ :: _,_,[],_,_,h=>by simp at h
 | [],_ :: _,_,h,_,_=>by simp at h
 | _ :: _,[],_,h,_,_=>by simp at h
 | x :: r,s :: t,y :: L,hl,hX,h=>by
  have f1:=hf.1
  have f2:=hf.2.1
  have g1:=hg.1
  have g2:=hg.2.1
  rw[List.map_cons,List.map_cons,List.map_cons,List.cons.injEq]at h
  have h1:y.l1=ofN (red x s0).1∧y.l2=ofN (red x s0).2:=Prod.mk.injEq ..▸h.1
  have ih:=updL_law (eff:=eff) hf hg h0 hsm r t L (by simpa using hl) (fun z hz=>hX z (List.mem_cons_of_mem _ hz)) h.2
  have hx:=hX x (List.mem_cons_self ..)
  have hs0:Sm s0:=hsm.le (by omega)
  have he:Sm (s0*f.2*g.2):=hsm.le (mul_le6 hf.le1.2 hg.le1.2)
  have he0:0<s0*f.2*g.2:=Nat.mul_pos (Nat.mul_pos h0 (by omega)) (by omega)
  unfold updL at ih ⊢
  rw[List.zip_cons_cons,mapG_cons,ih,mulX,List.map_cons]
  have key:updF eff (opN f) (opN g) (y,s)=(0,red (if eff &&& s=0 then x*f.1*g.2 else x*g.1*f.2) (s0*f.2*g.2)):=by
   unfold updF facU
   simp only[h1.1,h1.2]
   have hxs:x*1000000≤s0*1000000:=Nat.mul_le_mul_right _ hx
   split
   ·exact mul_redN hf h0 (hs0.le hx) hs0 he0 (by grind) (hsm.le (Nat.le_trans (mul_le6 hf.le1.1 hg.le1.2) hxs)) he
   ·exact mul_redN hg h0 (hs0.le hx) hs0 he0 (by grind) (hsm.le (Nat.le_trans (mul_le6 hg.le1.1 hf.le1.2) hxs)) he
  rw[key]
  rfl
theorem upd_law{l:List Int}{s:List Nat}{q:List (Nat×Nat)}{b eff:Nat}{f g:Nat×Nat}{L:List FR}(h:BX l s q b)(hf:OkN f)(hg:OkN g)(hb:Sm (b*1000000))(hL:L.map prV=q.map fun q=>(ofN q.1,ofN q.2)) :
  ∃q',thenN l s (updL L s eff (opN f) (opN g))=⟨0,l,s,q'⟩∧BX l s q' (b*1000000):=by
 obtain ⟨X,hq,hn,hx,h0,hle⟩:=h.ex
 have hs:Sm (lsum X*1000000):=hb.le (Nat.mul_le_mul_right _ hle)
 rw[hq]at hL
 have hu:=updL_law (eff:=eff) hf hg h0 hs X s L hn (fun x hx=>lsum_mem hx) hL
 have hpos:=mulX_pos (eff:=eff) (S:=s) hf hg hx
 have hmle:=mulX_le (eff:=eff) hf hg (X:=X) (S:=s)
 have hml:=mulX_len (eff:=eff) (f:=f) (g:=g) hn
 have hne:0<(mulX eff f g X s).length:=by
  rw[hml,←hn]
  cases X with
  | nil=>exact absurd h0 (by decide)
  | cons x r=>simp
 have h0':0<lsum (mulX eff f g X s):=by
  cases hm:mulX eff f g X s with
  | nil=>rw[hm]at hne;exact absurd hne (by decide)
  | cons y r=>
   have:=hpos y (by rw[hm];exact List.mem_cons_self ..)
   rw[lsum];omega
 have f1:=hf.1
 have f2:=hf.2.1
 have g2:=hg.2.1
 have he0:0<lsum X*f.2*g.2:=Nat.mul_pos (Nat.mul_pos h0 (by omega)) (by omega)
 refine ⟨_,?_,⟨h.cl,h.st,⟨_,rfl,hml,hpos,h0',Nat.le_trans hmle (Nat.mul_le_mul_right _ hle)⟩⟩⟩
 unfold thenN
 rw[hu,if_pos rfl,normQ_red he0 (hs.le (mul_le6 hf.le1.2 hg.le1.2)) (hs.le hmle) h0']
 rfl
def outN(failed:Bool)(a:Nat×Nat):Nat×Nat:=if failed then a else (a.2-a.1,a.2)
theorem outF_N{failed:Bool}{a:Nat×Nat}(h:OkN a):outF failed (opN a)=opN (outN failed a):=by
 cases failed with
 | true=>rfl
 | false=>exact h.cha.oth.eq
theorem OkN.out{failed:Bool}{a:Nat×Nat}(h:OkN a):OkN (outN failed a):=by
 cases failed with
 | true=>exact h
 | false=>exact h.oth
theorem updL_cong{eff:Nat}{fl dt:LP}:∀(L L':List FR) (S:List Nat),L.map prV=L'.map prV→updL L S eff fl dt=updL L' S eff fl dt
 | [],[],_,_=>rfl
 | [],_ :: _,_,h=>by simp at h
 | _ :: _,[],_,h=>by simp at h
 | _ :: _,_ :: _,[],_=>rfl
 | x :: r,y :: t,s :: S,h=>by
  rw[List.map_cons,List.map_cons,List.cons.injEq]at h
  have h1:x.l1=y.l1∧x.l2=y.l2:=Prod.mk.injEq ..▸h.1
  have ih:=updL_cong (eff:=eff) (fl:=fl) (dt:=dt) r t S h.2
  unfold updL at ih ⊢
  rw[List.zip_cons_cons,List.zip_cons_cons,mapG_cons,mapG_cons,ih]
  unfold updF
  simp only[h1.1,h1.2]
theorem toN_map(s:List Nat):toN (s.map fun (x:Nat)=>(x:Int))=s:=by
 unfold toN
 rw[List.map_map]
 exact List.map_id'' (fun x=>rfl) _
theorem BX.mono{l:List Int}{s:List Nat}{q:List (Nat×Nat)}{b c:Nat}(h:BX l s q b)(hc:b≤c):BX l s q c:=by
 obtain ⟨X,h1,h2,h3,h4,h5⟩:=h.ex
 exact ⟨h.cl,h.st,X,h1,h2,h3,h4,Nat.le_trans h5 hc⟩
theorem BX.upd{l:List Int}{s:List Nat}{q:List (Nat×Nat)}{b:Nat}{f g:Nat×Nat}{pool:Int}{failed:Bool}(h:BX l s q b)(hf:OkN f)(hg:OkN g)(hfg:f.1*g.2<g.1*f.2)(hb:Sm (b*1000000))(hp:setB l pool=true) :
  ∃q',BX l s q' (b*1000000)∧∀L:List FR,L.map prV=q.map (fun q=>(ofN q.1,ofN q.2))→updB l (s.map fun (x:Nat)=>(x:Int)) L (opN f) (opN g) pool failed=⟨0,l,s,q'⟩:=by
 have hc:(q.map qFR).map prV=q.map fun q=>(ofN q.1,ofN q.2):=by rw[List.map_map];rfl
 obtain ⟨q',h1,h2⟩:=upd_law (eff:=effN l pool.toNat) h (hf.out (failed:=failed)) (hg.out (failed:=failed)) hb hc
 refine ⟨q',h2,fun L hL=>?_⟩
 have hk:=h.chk (hb.le (by omega)) hL
 have hn:noiF (opN f).1 (opN f).2 (opN g).1 (opN g).2=true:=noiF_N hf hg hfg
 unfold updB
 rw[hk,hn,Bool.and_self,if_pos rfl,if_pos hp,toN_map,outF_N hf,outF_N hg,updL_cong L (q.map qFR) s (hL.trans hc.symm),h1]
theorem BX.len{l:List Int}{s:List Nat}{q:List (Nat×Nat)}{b:Nat}(h:BX l s q b):l.length≤8∧s.length≤256∧q.length=s.length∧(∀x∈s,x<256):=by
 obtain ⟨m,hm,rfl⟩:=h.st
 obtain ⟨X,h1,h2,_⟩:=h.ex
 refine ⟨(chk_len h.cl).2,setsL_len h.cl,by rw[h1,List.length_map,h2],fun x hx=>?_⟩
 have:=(hI_ok h.cl m).2 x
 rw[toN_hI]at this
 exact this hx
theorem setB_of{l:List Int}{x:Int}(h0:0≤x)(h:x<((2^l.length:Nat):Int)):setB l x=true:=by
 unfold setB
 rw[decide_eq_true_eq]
 refine ⟨h0,?_⟩
 have e:((2^l.length:Nat):Int)=2^l.length:=by simp
 rw[←e];exact h
def qX(X:List Nat):List (Nat×Nat):=X.map fun x=>red x (lsum X)
structure PX (s X:List Nat) (b:Nat):Prop where
 len:X.length=s.length
 pos:∀x∈X,0<x
 sum:0<lsum X
 le:lsum X≤b
theorem PX.bx{l:List Int}{s X:List Nat}{b:Nat}(h:PX s X b)(hc:chkL l=true)(hs:∃m:Int,(m=1∨m=2)∧s=setsL l m):BX l s (qX X) b:=⟨hc,hs,X,rfl,h.len,h.pos,h.sum,h.le⟩
theorem PX.upd{s X:List Nat}{b eff:Nat}{f g:Nat×Nat}(h:PX s X b)(hf:OkN f)(hg:OkN g):PX s (mulX eff f g X s) (b*1000000):=by
 have hpos:=mulX_pos (eff:=eff) (S:=s) hf hg h.pos
 have hml:=mulX_len (eff:=eff) (f:=f) (g:=g) h.len
 refine ⟨hml,hpos,?_,Nat.le_trans (mulX_le (eff:=eff) hf hg (X:=X) (S:=s)) (Nat.mul_le_mul_right _ h.le)⟩
 have hne:0<(mulX eff f g X s).length:=by
  rw[hml,←h.len]
  have:=h.sum
  cases X with
  | nil=>exact absurd this (by decide)
  | cons x r=>simp
 cases hm:mulX eff f g X s with
 | nil=>rw[hm]at hne;exact absurd hne (by decide)
 | cons y r=>
  have:=hpos y (by rw[hm];exact List.mem_cons_self ..)
  rw[lsum];omega
theorem PX.then{l:List Int}{s X:List Nat}{b eff:Nat}{f g:Nat×Nat}{L:List FR}(h:PX s X b)(hf:OkN f)(hg:OkN g)(hb:Sm (b*1000000))(hL:L.map prV=(qX X).map fun q=>(ofN q.1,ofN q.2)) :
  thenN l s (updL L s eff (opN f) (opN g))=⟨0,l,s,qX (mulX eff f g X s)⟩:=by
 have hs:Sm (lsum X*1000000):=hb.le (Nat.mul_le_mul_right _ h.le)
 have hu:=updL_law (eff:=eff) hf hg h.sum hs X s L h.len (fun x hx=>lsum_mem hx) hL
 have hn:=h.upd (eff:=eff) hf hg
 have f1:=hf.1
 have f2:=hf.2.1
 have g2:=hg.2.1
 have he0:0<lsum X*f.2*g.2:=Nat.mul_pos (Nat.mul_pos h.sum (by omega)) (by omega)
 unfold thenN
 rw[hu,if_pos rfl,normQ_red he0 (hs.le (mul_le6 hf.le1.2 hg.le1.2)) (hb.le hn.le) hn.sum]
 rfl
theorem PX.updB{l:List Int}{s X:List Nat}{b:Nat}{f g:Nat×Nat}{pool:Int}{failed:Bool}{L:List FR}(h:PX s X b)(hc:chkL l=true)(hm:∃m:Int,(m=1∨m=2)∧s=setsL l m)(hf:OkN f)(hg:OkN g)(hfg:f.1*g.2<g.1*f.2)(hb:Sm (b*1000000))(hp:setB l pool=true)
  (hL:L.map prV=(qX X).map fun q=>(ofN q.1,ofN q.2)) :
  Sx.updB l (s.map fun (x:Nat)=>(x:Int)) L (opN f) (opN g) pool failed=⟨0,l,s,qX (mulX (effN l pool.toNat) (outN failed f) (outN failed g) X s)⟩:=by
 have hk:=(h.bx hc hm).chk (hb.le (by omega)) hL
 have hn:noiF (opN f).1 (opN f).2 (opN g).1 (opN g).2=true:=noiF_N hf hg hfg
 unfold Sx.updB
 rw[hk,hn,Bool.and_self,if_pos rfl,if_pos hp,toN_map,outF_N hf,outF_N hg]
 exact h.then hf.out hg.out hb hL
theorem le_nilC{s:St}(j k:Nat)(T T':TypeId)(zz:Nat)(h1:lkH s.hp j=some (T,[.ext (.slice none 0 0)]))(h2:awayP k s):Le s {env:=s.env,hp:=(k,T',[]) :: upH s.hp j [.slo k 0 0 zz],M:=s.M,kb:=s.kb,fx:=s.fx,fr:=s.fr}:=fun c n ρ av w g=>by
 have hlk:∀i x,lkH ((k,T',[]) :: upH s.hp j [.slo k 0 0 zz]) i=some x→(i=k∧x=(T',[]))∨(i≠k∧((i=j∧x=(T,[.slo k 0 0 zz]))∨(i≠j∧lkH s.hp i=some x))):=fun i x hi=>by
  by_cases e:k=i
  ·subst e;simp[lkH]at hi;exact .inl ⟨rfl,hi.symm⟩
  ·simp only[lkH,if_neg e,lkH_upH]at hi
   refine .inr ⟨fun e2=>e e2.symm,?_⟩
   by_cases e2:j=i
   ·subst e2;rw[if_pos rfl,h1]at hi;simp at hi;exact .inl ⟨rfl,hi.symm⟩
   ·rw[if_neg e2]at hi;exact .inr ⟨fun e3=>e2 e3.symm,hi⟩
 have hsome:∀i x,lkH ((k,T',[]) :: upH s.hp j [.slo k 0 0 zz]) i=some x→i≠k→(lkH s.hp i).isSome=true:=fun i x hi hne=>by
  rcases hlk i x hi with ⟨e,_⟩|⟨_,⟨rfl,_⟩|⟨_,h⟩⟩
  ·exact absurd e hne
  ·rw[h1];rfl
  ·rw[h];rfl
 refine ⟨upd ρ k none,{df:=g.df,sz:=g.sz,env:=fun t=>is_upd (awayP_env h2 t) (g.env t),hp:=fun i T2 cs b hi hb=>?_,no:=fun i T2 cs hi hb=>?_,inj:=fun i i' b b' hi hi' hb hb' e=>?_,os:=g.os,tape:=g.tape,output:=g.output,size:=g.size,block:=g.block,sub:=g.sub,le:=g.le,mf:=g.mf,fix:=fun i hi=>?_,fx:=fun i hi=>?_,kl:=g.kl,fr:=g.fr}⟩
 ·rcases hlk i _ hi with ⟨rfl,hx⟩|⟨hne,⟨rfl,hx⟩|⟨hnj,hx⟩⟩
  ·rw[upd_self]at hb;cases hb
  ·rw[upd_ne _ _ hne]at hb
   cases hx
   obtain ⟨⟨arr,f1⟩,f2⟩:=g.hp i T _ b h1 hb
   refine ⟨⟨arr,f1.there,f1.size,f1.le,fun q v hv=>?_⟩,f2⟩
   cases q with
   | zero=>
    simp at hv;subst hv
    exact .inr ⟨rfl,none,(fun x e=>by cases e),f1.is 0 _ rfl⟩
   | succ q=>simp at hv
  ·rw[upd_ne _ _ hne]at hb
   obtain ⟨⟨arr,f1⟩,f2⟩:=g.hp i T2 cs b hx hb
   exact ⟨⟨arr,f1.there,f1.size,f1.le,fun q v hv=>is_upd (fun hm=>(awayP_hp h2 i T2 cs hx).2 (mentL_get hv hm)) (f1.is q v hv)⟩,f2⟩
 ·rcases hlk i _ hi with ⟨rfl,hx⟩|⟨hne,⟨rfl,hx⟩|⟨hnj,hx⟩⟩
  ·cases hx;rfl
  ·rw[upd_ne _ _ hne]at hb
   have:=g.no i T _ h1 hb
   cases this
  ·rw[upd_ne _ _ hne]at hb;exact g.no i T2 cs hx hb
 ·obtain ⟨x,hx⟩:=Option.isSome_iff_exists.1 hi
  obtain ⟨x',hx'⟩:=Option.isSome_iff_exists.1 hi'
  have hne:i≠k:=fun e=>by subst e;rw[upd_self]at hb;cases hb
  have hne':i'≠k:=fun e=>by subst e;rw[upd_self]at hb';cases hb'
  rw[upd_ne _ _ hne]at hb
  rw[upd_ne _ _ hne']at hb'
  exact g.inj i i' b b' (hsome i x hx hne) (hsome i' x' hx' hne') hb hb' e
 ·simp only[lkH,lkH_upH]
  split
  ·rfl
  ·split
   ·rename_i e;subst e;rw[h1];rfl
   ·exact g.fix i hi
 ·rw[upd_ne _ _ fun e=>awayP_fx h2 (by rw[←e];exact hi)];exact g.fx i hi
section
variable {M:Mem}{K:AV→Hp→Mem→Prop}
end
theorem redN_ok{n d:Nat}(h0:0<n)(h:n<d)(hd:d≤1000):OkN (red n d):=by
 have hp:=red_p (x:=n) (d:=d) (by omega)
 refine ⟨red_num (by omega) h0,?_,Nat.le_trans hp.le2 hd,hp.gcd⟩
 unfold red
 exact low_lt h
theorem two_lt{n n2 y a b c d:Nat}(h:n<n2)(hy:0<y)(e1:a*y=n*b)(e2:c*y=n2*d)(hb:0<b)(hd:0<d):a*d<c*b:=by
 refine Nat.lt_of_mul_lt_mul_right (a:=y) ?_
 calc a*d*y=n*b*d:=by rw[←e1];grind
  _=n*(b*d):=by grind
  _<n2*(b*d):=Nat.mul_lt_mul_of_pos_right h (Nat.mul_pos hb hd)
  _=n2*d*b:=by grind
  _=c*b*y:=by rw[←e2];grind
section
variable {M:Mem}{K:AV→Hp→Mem→Prop}
end
theorem Fz.bind{z:St}{B:St→Prop}(h:Fz z (fun y=>Fz y B)):Fz z B:=fun c n a w hcx g=>by
 obtain ⟨y,g1,h1⟩:=h c n a w hcx g
 exact h1 c n a w hcx g1
open Classical in
theorem Fz.cell{z:St}{B:St→Prop}{j k n q:Nat}{T T0:TypeId}(cs:List Value)(E:Env)(R:Hp)(hj:lkH z.hp j=some (T0,[.slo k 0 n q]))(hk:lkH z.hp k=some (T,cs.map .ext))(hn:cs.length=n*q)(hkb:z.kb≤k)(hjk:j≠k)
  (hE:subE E z.env) (hE2:k∉mentE E) (hR:subHp R z.hp) (hR2:k∉mentH R) (hkeep:keepLt z.kb R z.hp) (hfx:∀k,k<z.kb→(lkH z.hp k).isSome=true→k∈z.fx)
  (h:∀M' U,Mem.le z.M M'→SlM M' q U n cs→FreshS z.M U→B {env:=E,hp:=(j,T0,[.ext U]) :: R,M:=M',kb:=z.kb,fx:=z.fx,fr:=z.fr}):Fz z B:=fun c n0 a w hcx ⟨ρ,g⟩=>by
 obtain ⟨bj,hbj⟩:∃b,ρ j=some b:=by
  cases hb:ρ j with
  | none=>have:=g.no j _ _ hj hb;cases this
  | some b=>exact ⟨b,rfl⟩
 obtain ⟨⟨arr0,row0⟩,fj2,fj3⟩:=g.hp j _ _ bj hj hbj
 have hU:=row0.is 0 (.slo k 0 n q) rfl
 generalize hUe:arr0.getD 0 undef=U at hU
 let D:Nat→Prop:=fun b=>∃x,ρ k=some x∧x.b=b
 let M':Mem:=fun b=>if D b then w.heap[b]? else z.M b
 have hRz:∀k x,lkH R k=some x→lkH z.hp k=some x:=subHp_lk hR
 have hRF:∀i x,lkH R i=some x→i≠k:=fun i x hx e=>by
  subst e
  exact hR2 (mentH_lk (T:=x.1) (cs:=x.2) hx (.inl rfl))
 have hMD:∀b,D b→z.M b=none:=fun b ⟨x,hx,e⟩=>by
  rw[←e];exact (g.hp k _ _ x hk hx).2.2
 have hle:Mem.le z.M M':=fun b o hb=>by
  by_cases hD:D b
  ·rw[hMD b hD]at hb;cases hb
  ·simp only[M',if_neg hD];exact hb
 have hlk:∀j x,lkH [(k,T,cs.map AV.ext)] j=some x→j=k∧x=(T,cs.map .ext):=fun j x h=>by
  simp only[lkH]at h
  split at h
  ·rename_i e;cases h;exact ⟨e.symm,rfl⟩
  ·cases h
 have hc:closedH [(k,T,cs.map AV.ext)]:=fun j T' ds q hj hq=>by
  obtain ⟨_,e⟩:=hlk j _ hj
  cases e
  rw[mentL_ext]at hq;cases hq
 have hhold:HoldH ρ z.M M' [(k,T,cs.map AV.ext)] w:=fun i T' ds b hi hb=>by
  obtain ⟨rfl,e⟩:=hlk i _ hi
  cases e
  obtain ⟨⟨arr,h1⟩,_,h2⟩:=g.hp _ _ _ b hk hb
  have hD:D b.b:=⟨b,hb,rfl⟩
  exact ⟨⟨arr,by simp only[M',if_pos hD];exact h1.there,h1⟩,h2⟩
 have hB:B {env:=E,hp:=(j,T0,[.ext U]) :: R,M:=M',kb:=z.kb,fx:=z.fx,fr:=z.fr}:=by
  have h2:=borI_is hhold (.slo k 0 n q) U (fun i hi=>by
   have:i=k:=by simpa [AV.ment] using hi
   subst this
   simp[lkH]) hU
  obtain ⟨h3,h4⟩:=h2
  have h5:=h4 T cs (by simp[lkH]) (by omega)
  rw[List.drop_zero,List.take_of_length_le (by omega)]at h5
  exact h M' U hle h5 h3
 have hlk2:∀i x,lkH ((j,T0,[AV.ext U]) :: R) i=some x→(i=j∧x=(T0,[.ext U]))∨(i≠j∧lkH R i=some x):=fun i x hx=>by
  simp only[lkH]at hx
  split at hx
  ·rename_i e;cases hx;exact .inl ⟨e.symm,rfl⟩
  ·rename_i e;exact .inr ⟨fun e2=>e e2.symm,hx⟩
 have hsome:∀i,(lkH ((j,T0,[AV.ext U]) :: R) i).isSome=true→(lkH z.hp i).isSome=true:=fun i hi=>by
  obtain ⟨x,hx⟩:=Option.isSome_iff_exists.1 hi
  rcases hlk2 i x hx with ⟨rfl,_⟩|⟨_,hx⟩
  ·rw[hj];rfl
  ·rw[hRz i x hx];rfl
 have hnk:∀i,(lkH ((j,T0,[AV.ext U]) :: R) i).isSome=true→i≠k:=fun i hi=>by
  obtain ⟨x,hx⟩:=Option.isSome_iff_exists.1 hi
  rcases hlk2 i x hx with ⟨rfl,_⟩|⟨_,hx⟩
  ·exact hjk
  ·exact hRF i x hx
 have hnD:∀i b,(lkH ((j,T0,[AV.ext U]) :: R) i).isSome=true→ρ i=some b→¬D b.b:=fun i b hi hb ⟨x,hx,e⟩=>by
  exact hnk i hi (g.inj k i x b (by rw[hk];rfl) (hsome i hi) hx hb e).symm
 refine ⟨_,⟨ρ,?_⟩,hB⟩
 refine {df:=g.df,sz:=g.sz,env:=fun t=>?_,hp:=fun i T' ds b hi hb=>?_,no:=fun i T' ds hi hb=>?_,inj:=fun i i' b b' hi hi' hb hb' e=>g.inj i i' b b' (hsome i hi) (hsome i' hi') hb hb' e,os:=g.os,tape:=g.tape,output:=g.output,size:=g.size,block:=g.block,sub:=fun b o hb=>?_,le:=g.le.trans hle,mf:=fun b hb=>?_,fix:=fun i hi=>?_,fx:=g.fx,kl:=g.kl,fr:=g.fr}
 ·show (lk E t).is ρ _
  rcases subE_lk hE t with e2|e2
  ·rw[e2];trivial
  ·rw[e2];exact g.env t
 ·have hD:=hnD i b (by rw[hi];rfl) hb
  rcases hlk2 i _ hi with ⟨rfl,e⟩|⟨_,hi⟩
  ·cases e
   rw[hbj]at hb;cases hb
   refine ⟨⟨arr0,row0.there,row0.size,row0.le,fun p v hv=>?_⟩,fj2,?_⟩
   ·cases p with
    | zero=>cases hv;exact hUe
    | succ p=>cases hv
   ·show M' bj.b=none
    simp only[M',if_neg hD];exact fj3
  ·obtain ⟨f1,f2,f3⟩:=g.hp i T' ds b (hRz i _ hi) hb
   refine ⟨f1,f2,?_⟩
   show M' b.b=none
   simp only[M',if_neg hD];exact f3
 ·rcases hlk2 i _ hi with ⟨rfl,e⟩|⟨_,hi⟩
  ·rw[hbj]at hb;cases hb
  ·exact g.no i T' ds (hRz i _ hi) hb
 ·have hb:M' b=some o:=hb
  by_cases hD:D b
  ·simp only[M',if_pos hD]at hb;exact hb
  ·simp only[M',if_neg hD]at hb;exact g.sub b o hb
 ·have hb:M' b≠none:=hb
  by_cases hD:D b
  ·obtain ⟨x,hx,e⟩:=hD
   rcases (g.hp k _ _ x hk hx).2.1 with h5|h5
   ·rw[←e];exact .inr h5
   ·exfalso
    obtain ⟨k',y',h6,h7,h8⟩:=hcx.x _ h5
    have h9:=g.fix k' h6
    have h10:=g.kl k' h6
    have h11:=g.fx k' (hfx k' h10 h9)
    rw[h7]at h11
    have:=g.inj k' k y' x h9 (by rw[hk];rfl) h11 hx h8
    omega
  ·simp only[M',if_neg hD]at hb;exact g.mf b hb
 ·have h1:=keepLt_ok hkeep i (g.kl i hi) (g.fix i hi)
  simp only[lkH]
  split
  ·rfl
  ·exact h1
theorem rOK_set{L:List Int}{i:Nat}{x:Int}(h:rOK L L.length)(h1 : -1≤x)(h2:x<(i:Int)):rOK (L.set i x) (L.set i x).length:=fun j hj _=>by
 rw[List.length_set]at hj
 rw[List.getElem_set]
 split
 ·rename_i e;subst e;exact ⟨h1,h2⟩
 ·exact h j hj hj
theorem rOK_repl(n:Nat):rOK (List.replicate n (-1)) (List.replicate n (-1)).length:=fun j hj _=>by
 rw[List.getElem_replicate];omega
structure PriI (M:Mem) (D:List FR) (i:Nat):Prop where
 len:D.length=i
 ok:okFL M D
 val:∃N:List (Nat×Nat),D.map prV=N.map opN∧∀p∈N,OkN p
theorem PriI.le{M M':Mem}{D:List FR}{i:Nat}(h:PriI M D i)(hM:Mem.le M M'):PriI M' D i:=⟨h.len,h.ok.le hM,h.val⟩
theorem PriI.snoc{M:Mem}{D:List FR}{i:Nat}(h:PriI M D i){w1 w2:Value}{a:Nat×Nat}(hf:IsF M w1 w2 (ofN a.1) (ofN a.2))(ha:OkN a):PriI M (D++[⟨w1,w2,ofN a.1,ofN a.2⟩]) (i+1):=by
 obtain ⟨N,h1,h2⟩:=h.val
 refine ⟨by rw[List.length_append,h.len];rfl,fun x hx=>?_,N++[a],by rw[List.map_append,List.map_append,h1];rfl,fun p hp=>?_⟩
 ·rcases List.mem_append.1 hx with hx|hx
  ·exact h.ok x hx
  ·rw[List.mem_singleton.1 hx];exact hf
 ·rcases List.mem_append.1 hp with hp|hp
  ·exact h2 p hp
  ·rw[List.mem_singleton.1 hp];exact ha
section
variable {M:Mem}{K:AV→Hp→Mem→Prop}
end
section
variable {M:Mem}{K:AV→Hp→Mem→Prop}
end
section
variable {M:Mem}{K:AV→Hp→Mem→Prop}{ur us uw x1 x2 y1 y2:Value}{l:List Int}{s X:List Nat}{b:Nat}{f g:Nat×Nat}
def afterX(l:List Int)(pool:Int)(failed:Bool)(f g:Nat×Nat)(X s:List Nat):List Nat:=mulX (effN l pool.toNat) (outN failed f) (outN failed g) X s
theorem PX.one{l:List Int}(h:PX s X b)(hf:OkN f)(hg:OkN g)(pool:Int)(failed:Bool):PX s (afterX l pool failed f g X s) (b*1000000):=h.upd hf.out hg.out
theorem qX_len(X:List Nat):(qX X).length=X.length:=by unfold qX;rw[List.length_map]
end
theorem FQ.get{M:Mem}{u:Value}{qs:List (Nat×Nat)}(h:FQ M u qs){i:Nat}(hi:i<qs.length):∃v1 v2,nilS u=false∧lookM Tryz.prog 32 M (elemP u 2 i)=some (.agg #[v1,v2])∧IsF M v1 v2 (ofN qs[i].1) (ofN qs[i].2):=by
 obtain ⟨L,h3,h4,hq⟩:=h
 have hl:L.length=qs.length:=by have:=congrArg List.length hq;simpa using this
 have k1:i<L.length:=by omega
 have nn1:=h3.nn k1
 have a1:=h3.at (P:=Tryz.prog) (T:=32) (fun _=>rfl) tk32 tz32 k1
 have f1:=h4 _ (List.getElem_mem k1)
 have v1:prV L[i]=(ofN qs[i].1,ofN qs[i].2):=by
  have:=congrArg (fun X=>X[i]?) hq
  simp only[List.getElem?_map,List.getElem?_eq_getElem k1,List.getElem?_eq_getElem hi,Option.map_some]at this
  exact Option.some.inj this
 generalize L[i]=X at *
 obtain ⟨x1,x2,y1,y2⟩:=X
 unfold prV at v1
 simp only[Prod.mk.injEq]at v1
 obtain ⟨e1,e2⟩:=v1
 rw[←e1,←e2]
 exact ⟨x1,x2,nn1,a1,f1⟩
theorem FQ.sz{M:Mem}{u:Value}{qs:List (Nat×Nat)}(h:FQ M u qs):isSl u=true∧slen u=qs.length:=by
 obtain ⟨L,h3,h4,hq⟩:=h
 have hl:L.length=qs.length:=by have:=congrArg List.length hq;simpa using this
 exact ⟨h3.sl,hl▸h3.len⟩
theorem FracK.of{M:Mem}{K:AV→Hp→Mem→Prop}{v:Int×Nat×Nat}{r:Nat×Nat}(hr:v=(0,r))(b:Sm r.1∧Sm r.2)(h:∀w1 w2 M',Mem.le M M'→IsF M' w1 w2 (ofN r.1) (ofN r.2)→K (.ext (.tuple #[.agg #[w1,w2],.int .i64 0])) [] M'):FracK M K v:=by
 rw[hr]
 exact fun w1 w2 M' hM g1 g2 _ _=>h w1 w2 M' hM (isF_ofN g1 g2 ⟨b.1.len,b.2.len⟩)
theorem red_okn{f:Nat×Nat}(h:OkN f):red f.1 f.2=f:=by
 unfold red
 rw[h.2.2.2,Nat.div_one,Nat.div_one]
theorem OkN.sm{f:Nat×Nat}(h:OkN f):0<f.1∧0<f.2∧Sm f.1∧Sm f.2:=by
 obtain ⟨h1,h2,h3,_⟩:=h
 exact ⟨h1,by omega,sm1000 (by omega),sm1000 (by omega)⟩
section
variable {x d y e z w:Nat}
theorem mul_rr(hd:0<d)(he:0<e)(hw:0<w)(hx:Sm x)(hds:Sm d)(hy:Sm y)(hes:Sm e)(hz:Sm z)(hws:Sm w)(h:z*(d*e)=x*y*w) :
  mulF (ofN (red x d).1) (ofN (red x d).2) (ofN (red y e).1) (ofN (red y e).2)=(0,red z w):=by
 have h1:=red_p (x:=x) hd
 have h2:=red_p (x:=y) he
 rw[mulF_of (chk_red hx hds hd) (chk_red hy hes he)]
 refine ex_red (Nat.mul_pos h1.pos h2.pos) hw ?_ hz hws
 have e1:=h1.eq
 have e2:=h2.eq
 generalize (red x d).1=n1 at *
 generalize (red x d).2=d1 at *
 generalize (red y e).1=n2 at *
 generalize (red y e).2=d2 at *
 refine Nat.eq_of_mul_eq_mul_right (Nat.mul_pos hd he) ?_
 calc n1*n2*w*(d*e)=(n1*d)*(n2*e)*w:=by grind
  _=x*d1*(y*d2)*w:=by rw[e1,e2]
  _=(x*y*w)*(d1*d2):=by grind
  _=z*(d*e)*(d1*d2):=by rw[h]
  _=z*(d1*d2)*(d*e):=by grind
theorem add_rr(hd:0<d)(he:0<e)(hw:0<w)(hx:Sm x)(hds:Sm d)(hy:Sm y)(hes:Sm e)(hz:Sm z)(hws:Sm w)(h:z*(d*e)=(x*e+y*d)*w) :
  addF (ofN (red x d).1) (ofN (red x d).2) (ofN (red y e).1) (ofN (red y e).2)=(0,red z w):=by
 have h1:=red_p (x:=x) hd
 have h2:=red_p (x:=y) he
 rw[addF_of (chk_red hx hds hd) (chk_red hy hes he)]
 refine ex_red (Nat.mul_pos h1.pos h2.pos) hw ?_ hz hws
 have e1:=h1.eq
 have e2:=h2.eq
 generalize (red x d).1=n1 at *
 generalize (red x d).2=d1 at *
 generalize (red y e).1=n2 at *
 generalize (red y e).2=d2 at *
 refine Nat.eq_of_mul_eq_mul_right (Nat.mul_pos hd he) ?_
 calc (n1*d2+n2*d1)*w*(d*e)=((n1*d)*d2*e+(n2*e)*d1*d)*w:=by grind
  _=(x*d1*d2*e+y*d2*d1*d)*w:=by rw[e1,e2]
  _=((x*e+y*d)*w)*(d1*d2):=by grind
  _=z*(d*e)*(d1*d2):=by rw[h]
  _=z*(d1*d2)*(d*e):=by grind
theorem sub_1r(hd:0<d)(hx:Sm x)(hds:Sm d)(h:x≤d):subF (ofN 1) (ofN 1) (ofN (red x d).1) (ofN (red x d).2)=(0,red (d-x) d):=by
 have h1:=red_p (x:=x) hd
 have e1:=h1.eq
 have hle:(red x d).1≤(red x d).2:=by
  refine Nat.le_of_mul_le_mul_right ?_ hd
  rw[e1,Nat.mul_comm (red x d).2]
  exact Nat.mul_le_mul_right _ h
 rw[subF_of (by decide +kernel) (chk_red hx hds hd) (by omega),Nat.one_mul,Nat.mul_one]
 refine ex_red h1.pos hd ?_ (hds.le (by omega)) hds
 rw[Nat.sub_mul,Nat.sub_mul,e1,Nat.mul_comm d]
end
theorem mulX_get{eff:Nat}{f g:Nat×Nat}:∀{X s:List Nat} {i:Nat} (h1:i<X.length) (h2:i<s.length) (h3:i<(mulX eff f g X s).length),(mulX eff f g X s)[i]=if eff &&& s[i]=0 then X[i]*f.1*g.2 else X[i]*g.1*f.2
 | x :: r,y :: t,0,_,_,_=>by simp only[mulX,List.getElem_cons_zero]
 | x :: r,y :: t,i+1,h1,h2,h3=>by
  simp only[mulX,List.getElem_cons_succ]
  exact mulX_get (by simpa using h1) (by simpa using h2) _
def filtL:List FR→List Nat→(Nat→Bool)→List FR
 | x :: r,s :: t,c=>if c s then x :: filtL r t c else filtL r t c
 | _,_,_=>[]
def totF(L:List FR)(S:List Nat)(c:Nat→Bool):Int×Nat×Nat:=sumF (filtL L S c)
section
variable {M:Mem}{K:AV→Hp→Mem→Prop}{ur us uw x1 x2 y1 y2:Value}{l s:List Int}{S:List Nat}{L:List FR}{fl dt:LP}
def badC(eff s:Nat):Bool:=decide (¬eff &&& s=0)
def riskF(l s:List Int)(L:List FR)(p:Int):Int×Nat×Nat:=if setB l p then totF L (toN s) (badC (effN l p.toNat)) else (3,0,0)
end
def FrE(M:Mem)(K:AV→Hp→Mem→Prop)(r:Int×Nat×Nat):Prop:=∀w1 w2 M',Mem.le M M'→IsF M' w1 w2 (ofN r.2.1) (ofN r.2.2)→K (.ext (.tuple #[.agg #[w1,w2],.int .i64 r.1])) [] M'
theorem FrE.err{M M':Mem}{K:AV→Hp→Mem→Prop}{e:Int}(h:FrE M K (e,0,0))(hM:Mem.le M M'):K (.ext (.tuple #[.agg #[.slice none 0 0,.slice none 0 0],.int .i64 e])) [] M':=h _ _ M' hM (isF_zero _)
def failR(r:Int×Nat×Nat)(fl dt:LP):Int×Nat×Nat:=
 if r.1=0 then
  let x:=mulF (ofN r.2.1) (ofN r.2.2) dt.1 dt.2
  if x.1=0 then
   let o:=othF (ofN r.2.1) (ofN r.2.2)
   let y:=mulF (ofN o.1) (ofN o.2) fl.1 fl.2
   if y.1=0 then addF (ofN x.2.1) (ofN x.2.2) (ofN y.2.1) (ofN y.2.2) else (y.1,0,0)
  else (x.1,0,0)
 else (r.1,0,0)
def failF(l s:List Int)(L:List FR)(fl dt:LP)(p:Int):Int×Nat×Nat:=if chkB l s L&&noiF fl.1 fl.2 dt.1 dt.2 then failR (riskF l s L p) fl dt else (1,0,0)
section
variable {M:Mem}{K:AV→Hp→Mem→Prop}{ur us uw x1 x2 y1 y2:Value}{l s:List Int}{S:List Nat}{L:List FR}{fl dt:LP}
end
def filtX:List Nat→List Nat→(Nat→Bool)→List Nat
 | x :: r,s :: t,c=>if c s then x :: filtX r t c else filtX r t c
 | _,_,_=>[]
def totX(X s:List Nat)(c:Nat→Bool):Nat:=lsum (filtX X s c)
theorem filtX_le(c:Nat→Bool):∀(X s:List Nat),lsum (filtX X s c)≤lsum X
 | [],_=>by simp[filtX]
 | _ :: _,[]=>by simp[filtX,lsum]
 | x :: r,s :: t=>by
  have:=filtX_le c r t
  rw[filtX,lsum]
  split
  ·rw[lsum];omega
  ·omega
theorem filt_plain{d:Nat}(c:Nat→Bool):∀(X s:List Nat) (L:List FR),L.map prV=(X.map fun x=>red x d).map (fun q=>(ofN q.1,ofN q.2))→(filtL L s c).map prV=(((filtX X s c).map fun x=>red x d).map qFR).map prV
 | [],_,[],_=>by simp[filtL,filtX]
 | [],_,_ :: _,h=>by simp at h
 | _ :: _,_,[],h=>by simp at h
 | _ :: _,[],_ :: _,_=>by simp[filtL,filtX]
 | x :: r,s :: t,y :: u,h=>by
  rw[List.map_cons,List.map_cons,List.map_cons,List.cons.injEq]at h
  have ih:=filt_plain c r t u h.2
  rw[filtL,filtX]
  split
  ·rw[List.map_cons,List.map_cons,List.map_cons,List.map_cons,ih,h.1];rfl
  ·exact ih
theorem totF_red{d:Nat}(hd:0<d)(hds:Sm d){X s:List Nat}(hs:Sm (lsum X)){L:List FR}(c:Nat→Bool)(hL:L.map prV=(X.map fun x=>red x d).map (fun q=>(ofN q.1,ofN q.2))):totF L s c=(0,red (totX X s c) d):=by
 unfold totF
 rw[sumF_cong (filt_plain c X s L hL),sumF_red hd hds (hs.le (filtX_le c X s))]
 rfl
theorem mulX_sum{eff:Nat}{f g:Nat×Nat}:∀(X s:List Nat),X.length=s.length→lsum (mulX eff f g X s)+totX X s (badC eff)*(f.1*g.2)=totX X s (badC eff)*(g.1*f.2)+lsum X*(f.1*g.2)
 | [],[],_=>by simp[mulX,totX,filtX,lsum]
 | x :: r,s :: t,h=>by
  have ih:=mulX_sum (eff:=eff) (f:=f) (g:=g) r t (by simpa using h)
  unfold totX at ih ⊢
  rw[mulX,filtX,lsum,lsum]
  unfold badC at ih ⊢
  by_cases h0:eff &&& s=0
  ·rw[if_pos h0,if_neg (by simp[h0])]
   grind
  ·rw[if_neg h0,if_pos (by simp[h0]),lsum]
   grind
theorem othF_red{x d:Nat}(hd:0<d)(hx:Sm x)(hds:Sm d)(h:x≤d):othF (ofN (red x d).1) (ofN (red x d).2)=red (d-x) d:=by
 unfold othF
 rw[sub_1r hd hx hds h]
theorem le_million{a b:Nat}(ha:a≤1000)(hb:b≤1000):a*b≤1000000:=Nat.mul_le_mul ha hb
theorem failR_red{R N E:Nat}{f g:Nat×Nat}(hN:0<N)(hR:R≤N)(hs:Sm (N*1000000))(hf:OkN f)(hg:OkN g)(hE:E+R*(f.1*g.2)=R*(g.1*f.2)+N*(f.1*g.2)) :
  failR (0,red R N) (opN f) (opN g)=(0,red E (N*(f.2*g.2))):=by
 obtain ⟨f1,f2,f3,f4⟩:=hf.sm
 obtain ⟨g1,g2,g3,g4⟩:=hg.sm
 have fl:=hf.2.2.1
 have gl:=hg.2.2.1
 have flt:=hf.2.1
 have glt:=hg.2.1
 have hNs:Sm N:=hs.le (Nat.le_mul_of_pos_right _ (by decide))
 have hb1:Sm (R*g.1):=hs.le (Nat.mul_le_mul hR (by omega))
 have hb2:Sm (N*g.2):=hs.le (Nat.mul_le_mul_left _ (by omega))
 have hb3:Sm ((N-R)*f.1):=hs.le (Nat.mul_le_mul (by omega) (by omega))
 have hb4:Sm (N*f.2):=hs.le (Nat.mul_le_mul_left _ (by omega))
 have hb5:Sm (N*(f.2*g.2)):=hs.le (Nat.mul_le_mul_left _ (le_million fl gl))
 have hEe:E=R*(g.1*f.2)+(N-R)*(f.1*g.2):=by
  have:=Nat.sub_mul N R (f.1*g.2)
  have h2:=Nat.mul_le_mul_right (f.1*g.2) hR
  omega
 have hEl:E≤N*(f.2*g.2):=by
  rw[hEe]
  have h1:R*(g.1*f.2)≤R*(f.2*g.2):=Nat.mul_le_mul_left _ (by rw[Nat.mul_comm];exact Nat.mul_le_mul_left _ (by omega))
  have h2:(N-R)*(f.1*g.2)≤(N-R)*(f.2*g.2):=Nat.mul_le_mul_left _ (Nat.mul_le_mul_right _ (by omega))
  have h3:R*(f.2*g.2)+(N-R)*(f.2*g.2)=N*(f.2*g.2):=by rw[←Nat.add_mul];congr 1;omega
  omega
 have e1:=mul_rr (x:=R) (d:=N) (y:=g.1) (e:=g.2) (z:=R*g.1) (w:=N*g.2) hN g2 (Nat.mul_pos hN g2) (hNs.le hR) hNs g3 g4 hb1 hb2 rfl
 rw[red_okn hg]at e1
 have e2:=othF_red (x:=R) hN (hNs.le hR) hNs hR
 have e3:=mul_rr (x:=N-R) (d:=N) (y:=f.1) (e:=f.2) (z:=(N-R)*f.1) (w:=N*f.2) hN f2 (Nat.mul_pos hN f2) (hNs.le (by omega)) hNs f3 f4 hb3 hb4 rfl
 rw[red_okn hf]at e3
 have e4:=add_rr (x:=R*g.1) (d:=N*g.2) (y:=(N-R)*f.1) (e:=N*f.2) (z:=E) (w:=N*(f.2*g.2)) (Nat.mul_pos hN g2) (Nat.mul_pos hN f2) (Nat.mul_pos hN (Nat.mul_pos f2 g2)) hb1 hb2 hb3 hb4 (hb5.le hEl) hb5 (by rw[hEe];grind)
 unfold failR opN
 simp only[e1,e2,e3,e4,if_true]
theorem PX.fail{l:List Int}{s X:List Nat}{b:Nat}{f g:Nat×Nat}{pool:Int}{L:List FR}(h:PX s X b)(hc:chkL l=true)(hm:∃m:Int,(m=1∨m=2)∧s=setsL l m)(hf:OkN f)(hg:OkN g)(hfg:f.1*g.2<g.1*f.2)(hb:Sm (b*1000000))(hp:setB l pool=true)
  (hL:L.map prV=(qX X).map fun q=>(ofN q.1,ofN q.2)) :
  failF l (s.map fun (x:Nat)=>(x:Int)) L (opN f) (opN g) pool=(0,red (lsum (mulX (effN l pool.toNat) f g X s)) (lsum X*(f.2*g.2))):=by
 have hk:=(h.bx hc hm).chk (hb.le (Nat.le_mul_of_pos_right _ (by decide))) hL
 have hn:noiF (opN f).1 (opN f).2 (opN g).1 (opN g).2=true:=noiF_N hf hg hfg
 have hs:Sm (lsum X*1000000):=hb.le (Nat.mul_le_mul_right _ h.le)
 have hsl:Sm (lsum X):=hs.le (Nat.le_mul_of_pos_right _ (by decide))
 unfold failF riskF
 rw[hk,hn,Bool.and_self,if_pos rfl,if_pos hp,toN_map,totF_red h.sum hsl hsl (badC (effN l pool.toNat)) hL]
 exact failR_red h.sum (filtX_le _ _ _) hs hf hg (mulX_sum X s h.len)
section
variable {M:Mem}{K:AV→Hp→Mem→Prop}{ur us uw x1 x2 y1 y2:Value}{l s:List Int}{S:List Nat}{L:List FR}{fl dt:LP}
end
def dX(R N:Nat):Nat:=(2*R-N)+(N-2*R)
def pickS(f:Nat→Nat):List Nat→Nat→Nat→Nat
 | [],s,_=>s
 | p :: r,s,b=>if f p<b then pickS f r p (f p) else pickS f r s b
def dP(l:List Int)(X s:List Nat)(p:Nat):Nat:=dX (totX X s (badC (effN l p))) (lsum X)
def splitX(l:List Int)(X s:List Nat):Nat:=pickS (dP l X s) (ivN l.length) 0 (2*lsum X)
theorem iv_lt{n:Nat}(h:n≤8):∀p∈ivN n,p<256∧p<2^n:=by
 have:∀k,k<9→∀p∈ivN k,p<256∧p<2^k:=by decide +kernel
 exact this n (by omega)
theorem iv_len{n:Nat}(h:n≤8):(ivN n).length≤256:=by
 have:∀k,k<9→(ivN k).length≤256:=by decide +kernel
 exact this n (by omega)
theorem cmp_red{x d y e:Nat}(hd:0<d)(he:0<e)(hx:Sm x)(hds:Sm d)(hy:Sm y)(hes:Sm e):cmpF (ofN (red x d).1) (ofN (red x d).2) (ofN (red y e).1) (ofN (red y e).2)=cmpN (x*e) (y*d):=by
 have h1:=red_p (x:=x) hd
 have h2:=red_p (x:=y) he
 unfold cmpF
 rw[chk_red hx hds hd,chk_red hy hes he,Bool.and_self,if_pos rfl,valN_ofN,valN_ofN,valN_ofN,valN_ofN]
 have e1:=h1.eq
 have e2:=h2.eq
 have p1:=h1.pos
 have p2:=h2.pos
 generalize (red x d).1=n1 at *
 generalize (red x d).2=d1 at *
 generalize (red y e).1=n2 at *
 generalize (red y e).2=d2 at *
 have k1:n1*d2*(d*e)=x*e*(d1*d2):=by
  calc n1*d2*(d*e)=(n1*d)*d2*e:=by grind
   _=x*d1*d2*e:=by rw[e1]
   _=x*e*(d1*d2):=by grind
 have k2:n2*d1*(d*e)=y*d*(d1*d2):=by
  calc n2*d1*(d*e)=(n2*e)*d1*d:=by grind
   _=y*d2*d1*d:=by rw[e2]
   _=y*d*(d1*d2):=by grind
 have hde:0<d*e:=Nat.mul_pos hd he
 have hdd:0<d1*d2:=Nat.mul_pos p1 p2
 have lt_iff:n1*d2<n2*d1↔x*e<y*d:=by
  rw[←Nat.mul_lt_mul_right hde,k1,k2,Nat.mul_lt_mul_right hdd]
 have eq_iff:n1*d2=n2*d1↔x*e=y*d:=by
  constructor
  ·intro h
   refine Nat.eq_of_mul_eq_mul_right hdd ?_
   rw[←k1,←k2,h]
  ·intro h
   refine Nat.eq_of_mul_eq_mul_right hde ?_
   rw[k1,k2,h]
 unfold cmpN
 simp only[lt_iff,eq_iff]
section
variable {M:Mem}{K:AV→Hp→Mem→Prop}{ur us uw u1 u2:Value}{l:List Int}{s X:List Nat}{b:Nat}
end
section
variable {M:Mem}{K:AV→Hp→Mem→Prop}{ur us uw u1 u2:Value}{l s:List Int}{l1 l2:List Nat}{L:List FR}
theorem cloneN_ok(u:Value)(l:List Nat)(hu:IsL M u32V u l)(hb:l.length<1000000000)(hK:∀w M',Mem.le M M'→IsL M' u32V w l→FreshS M w→K (.ext w) [] M'):CallS Tryz.prog 120 [.ext u] [] M [] K:=by
 refine CallS.frzF ?_
 refine inlS (cs:=[]) Tryz.mixed Tryz.func120 rfl (by kernel_rfl) 0 rfl rfl ?_
 simp only[Tryz.f120]
 cases hn:nilS u with
 | true=>
  have hl:l=[]:=by
   rcases l with _|⟨a,r⟩
   ·rfl
   ·rw[hu.nn (i:=0) (by simp)]at hn;cases hn
  subst hl
  refine wT (A11 hn hu.one hu.sl @cE_ment @hasK_nil @cE_kill @cE_len @u32_one @u32_app1 @u32_set @Nat.mul_one) ?_
  exact .inl (hK _ _ (Mem.le.refl _) (isL_nil _ _ _) (freshS_nil _ _))
 | false=>
  have hrow:=hu.row
  have h1:List.map AV.ext (List.map u32V l)=cE u32V l:=rfl
  refine wT (A12 hn hu.one hu.sl hu.len hrow h1 @cE_ment @hasK_nil @cE_kill @cE_len @u32_one (A3 @u32_app1 @u32_set @Nat.mul_one)) ?_
  exact FrzF.one (l.map u32V) rfl (by simp) fun w M' h1 h2 h3=>hK w M' h1 (by unfold IsL;exact h2) h3
end
section
variable {M:Mem}{K:AV→Hp→Mem→Prop}{ur us uw:Value}{l:List Int}{s X:List Nat}{b:Nat}
end
section
variable {M:Mem}{K:AV→Hp→Mem→Prop}{ur us uw u1 u2:Value}{l s:List Int}{l1 l2:List Nat}{L:List FR}
end
theorem smC{j:Nat}(h:j≤20):Sm (b0*1000000^j):=by
 have h1:1000000^j≤1000000^20:=Nat.pow_le_pow_right (by decide) h
 have h2:b0*1000000^j≤b0*1000000^20:=Nat.mul_le_mul_left _ h1
 exact Nat.lt_of_le_of_lt h2 (Nat.lt_of_lt_of_le (show b0*1000000^20<2^600 by decide) (Nat.pow_le_pow_right (by decide) (by decide)))
theorem smC_succ{j:Nat}:b0*1000000^j*1000000=b0*1000000^(j+1):=by rw[Nat.pow_succ,Nat.mul_assoc]
def bestN(X:List Nat):Nat→Nat
 | 0=>0
 | k+1=>if X.getD (bestN X k) 0<X.getD k 0 then k else bestN X k
theorem bestN_le(X:List Nat):∀k,bestN X k≤k
 | 0=>Nat.le_refl _
 | k+1=>by
  rw[bestN]
  have:=bestN_le X k
  split<;>omega
theorem bestN_lt(X:List Nat):∀k,0<k→bestN X k<k
 | k+1,_=>by
  rw[bestN]
  have:=bestN_le X k
  split<;>omega
theorem cmpN_pos{x y:Nat}:0<cmpN x y↔y<x:=by
 unfold cmpN
 (repeat' split)<;>omega
theorem cmpN_nn{x y:Nat}:0≤cmpN x y↔y≤x:=by
 unfold cmpN
 (repeat' split)<;>omega
theorem plain_get{L:List FR}{X:List Nat}{N k:Nat}(hL:L.map prV=(X.map fun x=>red x N).map fun q=>(ofN q.1,ofN q.2))(hk:k<X.length) :
  (L.getD k zFR).l1=ofN (red (X.getD k 0) N).1∧(L.getD k zFR).l2=ofN (red (X.getD k 0) N).2:=by
 have hl:L.length=X.length:=by have:=congrArg List.length hL;simpa using this
 have h:=congrArg (fun l=>l[k]?) hL
 simp only[List.getElem?_map,List.getElem?_eq_getElem hk,List.getElem?_eq_getElem (show k<L.length by omega),Option.map_some]at h
 have h:=Option.some.inj h
 rw[List.getD_eq_getElem?_getD,List.getD_eq_getElem?_getD,List.getElem?_eq_getElem hk,List.getElem?_eq_getElem (show k<L.length by omega)]
 unfold prV at h
 simp only[Prod.mk.injEq]at h
 exact h
theorem getD_le{X:List Nat}{N k:Nat}(h:∀x∈X,x≤N):X.getD k 0≤N:=by
 rw[List.getD_eq_getElem?_getD]
 by_cases hk:k<X.length
 ·rw[List.getElem?_eq_getElem hk];exact h _ (List.getElem_mem hk)
 ·rw[List.getElem?_eq_none (by omega)];exact Nat.zero_le _
def topX(X:List Nat):Nat:=X.getD (bestN X X.length) 0
def decX(dl:Nat×Nat)(X:List Nat):Bool:=decide ((dl.2-dl.1)*lsum X≤topX X*dl.2)
def nextX(l:List Int)(s:List Nat)(dl:Nat×Nat)(most:Int)(X:List Nat)(n:Nat):Int×Int:=
 if decX dl X then (0,45) else if most≤(n:Int) then (0,47) else ((splitX l X s:Nat),0)
def playX(l:List Int)(s:List Nat)(f g dl:Nat×Nat)(most:Int):List (Int×Bool)→Nat→List Nat→Option (List Nat)
 | [],_,X=>some X
 | (p,b) :: r,n,X=>if nextX l s dl most X n=(p,0) then playX l s f g dl most r (n+1) (afterX l p b f g X s) else none
theorem topX_le{X:List Nat}:topX X≤lsum X:=getD_le fun _ hx=>lsum_mem hx
def startX(l:List Int)(N:List (Nat×Nat)):List Nat:=(setsL l 2).map fun s=>pn (facN s 0 N)
section
variable {M:Mem}{K:AV→Hp→Mem→Prop}{u v:Value}{x y:Nat}
structure IsZ (M:Mem) (u:Value) (x:Nat):Prop where
 l:IsL M u32V u (ofN x)
 s:Sm x
theorem IsZ.le{M M':Mem}{u:Value}{x:Nat}(h:IsZ M u x)(hM:Mem.le M M'):IsZ M' u x:=⟨h.l.le hM,h.s⟩
theorem IsZ.one{M:Mem}{u:Value}{x:Nat}(h:IsZ M u x):u.oneCell'=true:=h.l.one
theorem Sm.chk{x:Nat}(h:Sm x):chkN (ofN x)=true:=chkN_ofN h.len
theorem Sm.lim{x:Nat}(h:Sm x):limR x=(0,ofN x):=by unfold limR;rw[if_pos h.len]
theorem Sm.big{x:Nat}(h:Sm x):(ofN x).length<1000000:=by have:=h.len;omega
theorem zAdd(hu:IsZ M u x)(hv:IsZ M v y)(h:Sm (x+y))(hK:∀w M',Mem.le M M'→IsZ M' w (x+y)→FreshS M w→K (.ext (.tuple #[w,.int .i64 0])) [] M'):CallS Tryz.prog 172 [.ext u,.ext v] [] M [] K:=
 natAdd_ok hu.l hv.l (okN_ofN _) (okN_ofN _) hu.s.big hv.s.big (by
  unfold addR
  rw[hu.s.chk,hv.s.chk,Bool.and_self,if_pos rfl,valN_ofN,valN_ofN,h.lim]
  exact fun w M' hM g f=>hK w M' hM ⟨g,h⟩ f)
theorem zMul(hu:IsZ M u x)(hv:IsZ M v y)(h:Sm (x*y))(hK:∀w M',Mem.le M M'→IsZ M' w (x*y)→FreshS M w→K (.ext (.tuple #[w,.int .i64 0])) [] M'):CallS Tryz.prog 107 [.ext u,.ext v] [] M [] K:=
 natMul_ok hu.l hv.l (okN_ofN _) (okN_ofN _) hu.s.big hv.s.big (by
  unfold mulR
  rw[hu.s.chk,hv.s.chk,Bool.and_self,if_pos rfl,valN_ofN,valN_ofN,h.lim]
  exact fun w M' hM g f=>hK w M' hM ⟨g,h⟩ f)
theorem zSub(hu:IsZ M u x)(hv:IsZ M v y)(h:y≤x)(hK:∀w M',Mem.le M M'→IsZ M' w (x-y)→FreshS M w→K (.ext (.tuple #[w,.int .i64 0])) [] M'):CallS Tryz.prog 109 [.ext u,.ext v] [] M [] K:=
 natSub_ok hu.l hv.l (okN_ofN _) (okN_ofN _) hu.s.big hv.s.big (by
  unfold subR
  rw[hu.s.chk,hv.s.chk,Bool.and_self,if_pos rfl,valN_ofN,valN_ofN,if_neg (by omega)]
  exact fun w M' hM g f=>hK w M' hM ⟨g,hu.s.le (by omega)⟩ f)
theorem zCmp(hu:IsZ M u x)(hv:IsZ M v y)(hK:K (.ext (.int .i64 (cmpN x y))) [] M):CallS Tryz.prog 108 [.ext u,.ext v] [] M [] K:=
 natCmp_ok hu.l hv.l (okN_ofN _) (okN_ofN _) hu.s.big hv.s.big (by
  unfold cmpR
  rw[hu.s.chk,hv.s.chk,Bool.and_self,if_pos rfl,valN_ofN,valN_ofN]
  exact hK)
theorem zOf(n:Nat)(hn:n≤1000)(hK:∀w M',Mem.le M M'→IsZ M' w n→FreshS M w→K (.ext w) [] M'):CallS Tryz.prog 104 [.ext (.int .u64 (n:Int))] [] M [] K:=
 natOf_ok n (by omega) fun w M' hM g f=>hK w M' hM ⟨g,sm1000 (by omega)⟩ f
end
structure NR where
 v:Value
 n:Nat
def okNL(M:Mem)(E:List NR):Prop:=∀x∈E,IsZ M x.v x.n
theorem okNL.le{M M':Mem}{E:List NR}(h:okNL M E)(hM:Mem.le M M'):okNL M' E:=fun x hx=>(h x hx).le hM
theorem okNL.snoc{M:Mem}{E:List NR}{x:NR}(h:okNL M E)(hx:IsZ M x.v x.n):okNL M (E++[x]):=fun y hy=>by
 rcases List.mem_append.1 hy with hy|hy
 ·exact h y hy
 ·rw[List.mem_singleton.1 hy];exact hx
theorem okNL.all{M:Mem}{E:List NR}(h:okNL M E):allOne (cE NR.v E)=True:=eq_true (by
 unfold cE
 have:∀l:List Value,(∀v∈l,v.oneCell'=true)→allOne (l.map AV.ext):=by
  intro l
  induction l with
  | nil=>intro _;trivial
  | cons a r ih=>intro hl;exact ⟨hl a (List.mem_cons_self ..),ih fun v hv=>hl v (List.mem_cons_of_mem _ hv)⟩
 refine this _ fun v hv=>?_
 obtain ⟨x,hx,rfl⟩:=List.mem_map.1 hv
 exact (h x hx).one)
section
variable {M:Mem}{K:AV→Hp→Mem→Prop}{uw u v:Value}{X:List Nat}{N x y:Nat}
end
end Go.Proofs.YtiipiciemgdaeaaGreat.Sx
