/- Part 36 of the texts of this claim: a symbolic executor and contracts of functions. -/
import Derived.Test.YtiipiciemgdaeaaGreatCvTRP1
import Derived.Test.YtiipiciemgdaeaaGreatCvTRCPar
import Derived.Test.YtiipiciemgdaeaaGreatCvTRCLimB
import Derived.Test.YtiipiciemgdaeaaGreatCvTRCMak
namespace Go.Proofs.YtiipiciemgdaeaaGreat.Sx
open Go Go.RowKit
set_option linter.unusedVariables false
set_option linter.unusedSimpArgs false
set_option maxRecDepth 100000
set_option maxHeartbeats 8000000
attribute [local congr] fin_congr finG_congr stepG_congr step1_congr runOps_congr brv_congr obl_congr condK_congr LoopK_congr seqK_congr CutK_congr vc_congr DrawK_congr regK_congr CallK_congr AskK_congr newK_congr retC_congr ret1_congr retK_congr outV_congr closeK_congr genR_congr appR_congr finD_congr finGD_congr stepGD_congr stepD_congr CallK0_congr runD_congr okR_congr CallS_congr vcX_congr
attribute [local congr] Stop_congr
section
variable {M:Mem}{K:AV→Hp→Mem→Prop}
def tkSt(M:Mem)(k1 k2 o1 m1 o2 m2 i b:Nat)(L1 L2:List Nat):St:={env:=[(6,.ext (.int .i64 (i:Int))),(5,.ext (.int .u64 (b:Int))),(0,.slo k1 o1 m1 1),(1,.slo k2 o2 m2 1)],hp:=[(k1,79,cE u32V L1),(k2,79,cE u32V L2)],M:=M,kb:=3000,fx:=[k1,k2]}
theorem takeA_ok(o1 m1 o2 m2:Nat)(L1 L2:List Nat)(x y:Nat)(hA:OwnN L1 o1 m1 x)(hB:OwnN L2 o2 m2 y)(hb1:L1.length<100000000)(hb2:L2.length<100000000)(hyx:y≤x)(hK:∀L' m',L'.length=L1.length→OwnN L' o1 m' (x-y)→K (.slo 11 o1 m' 1) [(11,79,cE u32V L'),(13,79,cE u32V L2)] M) :
    CallS Tryz.prog 182 [.slo 11 o1 m1 1,.slo 13 o2 m2 1] [(11,79,cE u32V L1),(13,79,cE u32V L2)] M [] K:=by
  refine inlS (cs:=[]) (f:=182) Tryz.mixed Tryz.func182 rfl (by kernel_rfl) 3000 rfl rfl ?_
  simp only[Tryz.f182]
  refine wT (A8 @cE_ment @hasK_nil @cE_kill @cE_len @u32_one @u32_app1 @u32_set @Nat.mul_one) ?_
  have hAle:=hA.le
  have hBle:=hB.le
  have hAlen:=hA.len
  have hBlen:=hB.len
  have hml:m2≤m1:=by rw[hAlen,hBlen];exact len_mono hyx
  have hL:L1=L1.take o1++((L1.drop o1).take m1++L1.drop (o1+m1)):=by
    rw[←List.drop_drop,List.take_append_drop,List.take_append_drop]
  have hPl:(L1.take o1).length=o1:=by rw[List.length_take];omega
  have hoP:=okN_take hA.ok o1
  have hoS:=okN_drop hA.ok (o1+m1)
  rw[hA.eq]at hL
  generalize L1.take o1=P at *
  generalize L1.drop (o1+m1)=S at *
  have hLl:L1.length=o1+(m1+S.length):=by rw[hL,List.length_append,List.length_append,hPl,←hAlen]
  subst hL
  clear hA
  refine ⟨fun d z=>∃i b C,d=m1-i∧i≤m1∧C.length=m1∧okN C∧C.drop i=(ofN x).drop i∧b≤1∧valN (C.take i)+valN ((ofN y).take i)=valN ((ofN x).take i)+wN i*b∧z=tkSt M 11 13 o1 m1 o2 m2 i b (P++(C++S)) L2,
    ⟨m1,tkSt M 11 13 o1 m1 o2 m2 0 0 (P++(ofN x++S)) L2,le_sub ⟨rfl,rfl,rfl,rfl,trivial⟩ ⟨rfl,rfl,trivial⟩ rfl rfl rfl (by simp[keepLt,tkSt,lkH]),⟨0,0,ofN x,rfl,by omega,hAlen.symm,okN_ofN x,rfl,by omega,by simp[valN],rfl⟩⟩,?_⟩
  rintro d z ⟨i,c,C,rfl,hi,hC,hoC,hdr,hc,hval,rfl⟩
  by_cases hlt:i<m1
  case neg=>
    obtain rfl:i=m1:=by omega
    have d1:decide ((i:Int)<(i:Int))=false:=by simp
    rw[take_all (l:=ofN y) (by omega),take_all (l:=ofN x) (by omega),take_all (l:=C) (by omega),valN_ofN,valN_ofN,←hC]at hval
    have hv2:=sub_end hoC hval hyx
    have hok:okN (P++(C++S)):=okN_app.2 ⟨hoP,okN_app.2 ⟨hoC,hoS⟩⟩
    have hol:o1+i≤(P++(C++S)).length:=by simp[hC,hPl]
    have hfl:(P++(C++S)).length=(P++(ofN x++S)).length:=by simp[hC,←hAlen]
    have hpart:((P++(C++S)).drop o1).take i=C:=by
      rw[←hPl,List.drop_left,←hC,List.take_left]
    have hf:=A10 @cE_ment @hasK_nil @cE_kill @cE_len @u32_one @u32_app1 @u32_set @Nat.mul_one @tkSt.eq_1 d1;refine wS ?_;refine yH 189 ?_;refine sF ?_;refine cut_ok 11 o1 i (P++(C++S)) hol (by omega) hok (fun m' c1 c2 c3=>sG ?_);all_goals clear hf
    rw[hpart,hv2]at c1 c2
    refine wG (A8 @cE_ment @hasK_nil @cE_kill @cE_len @u32_one @u32_app1 @u32_set @Nat.mul_one) ?_
    refine hK _ m' hfl ⟨by omega,hok,?_⟩
    have hp2:=congrArg (List.take m') hpart
    rw[List.take_take,Nat.min_eq_left c3]at hp2
    rw[←c1,hp2]
  have hiC:i<C.length:=by omega
  have hix:i<(ofN x).length:=by omega
  have hat:=u32_mid (S:=S) hPl hiC
  have hx0:=okN_at hoC hiC
  have hCi:C[i]=(ofN x)[i]:=by
    have e1:(C.drop i)[0]? = ((ofN x).drop i)[0]?:=by rw[hdr]
    rw[List.getElem?_drop,List.getElem?_drop,Nat.add_zero,List.getElem?_eq_getElem hiC,List.getElem?_eq_getElem hix]at e1
    exact Option.some.inj e1
  have hgx:(ofN x).getD i 0=C[i]:=by simp[List.getD,hix,hCi]
  clear hCi
  have hti:(C.take i).length=i:=by rw[List.length_take];omega
  have d1:decide ((i:Int)<(m1:Int))=true:=by simp;omega
  have d2:(0:Int)≤(i:Int):=by omega
  have d3:(i:Int)<(m1:Int):=by omega
  have d4:(o1+i<(P++(C++S)).length)=True:=by simp[hC,hPl];omega
  have w9:IntKind.i64.wrap ((i:Int)+1)=((i+1:Nat):Int):=succ_i (by omega)
  have fin:∀(r c':Nat),r<4294967296→c'≤1→r+(ofN y).getD i 0+c=C[i]+4294967296*c'→∃D,D.length=m1∧okN D∧D.drop (i+1)=(ofN x).drop (i+1)∧valN (D.take (i+1))+valN ((ofN y).take (i+1))=valN ((ofN x).take (i+1))+wN (i+1)*c'∧D=C.set i r:=fun r c' hr hc' he=>by
    refine ⟨C.set i r,by rw[List.length_set];exact hC,okN_set hoC hr,?_,?_,rfl⟩
    · rw[List.drop_set_of_lt (by omega)]
      have:=congrArg (List.drop 1) hdr
      rw[List.drop_drop,List.drop_drop]at this
      exact this
    · have hv3:valN (C.take i)+valN ((ofN y).take i)=valN ((ofN x).take i)+wN (C.take i).length*c:=by rw[hti];exact hval
      have st:=sub_step hv3 he
      rw[hti]at st
      rw[take_set_self hiC,take_val,take_val,hgx];exact st
  generalize C[i]=a at *
  have w3:IntKind.u64.wrap (a:Int)=(a:Int):=wrap64_id (by omega)
  have w4:IntKind.u64.wrap ((a:Int)-(c:Int))=((subW a c:Nat):Int):=wrap64_sub (by omega)
  by_cases hy:i<m2
  · have hiy:i<(ofN y).length:=by omega
    have hyt:=u32_part hB.le hy (hil:=by rw[List.length_take,List.length_drop];omega)
    have hge:((L2.drop o2).take m2)[i]'(by rw[List.length_take,List.length_drop];omega)=(ofN y)[i]:=by
      simp only[hB.eq]
    rw[hge]at hyt
    have hy0:=ofN_ok_at hiy
    have hgy:(ofN y).getD i 0=(ofN y)[i]:=by simp[List.getD,hiy]
    rw[hgy]at fin
    generalize (ofN y)[i]=b at *
    have d5:decide ((i:Int)<(m2:Int))=true:=by simp;omega
    have d6:(i:Int)<(m2:Int):=by omega
    have w5:IntKind.u64.wrap (b:Int)=(b:Int):=wrap64_id (by omega)
    have w6:IntKind.u64.wrap (((subW a c:Nat):Int)-(b:Int))=((subW (subW a c) b:Nat):Int):=wrap64_sub (by omega)
    have w7:=wrap32 (subW (subW a c) b)
    have w8:=shr63 (subW (subW a c) b)
    have hms:=mid_set P C S o1 i (subW (subW a c) b % 4294967296) hPl hiC
    obtain ⟨s1,s2⟩:=subW_3 hx0 hy0 hc
    obtain ⟨D,f1,f2,f3,f4,f5⟩:=fin _ _ (Nat.mod_lt _ (by decide)) s2 s1
    refine wT (A12 @cE_ment @hasK_nil @cE_kill @cE_len @u32_one @u32_app1 @u32_set @Nat.mul_one @tkSt.eq_1 @u32V.eq_1 hat (A12 hyt d1 d2 d3 d4 d5 d6 w3 w4 w5 w6 (A4 w7 w8 w9 hms))) ?_
    rw[←f5]
    exact ⟨m1-(i+1),tkSt M 11 13 o1 m1 o2 m2 (i+1) _ (P++(D++S)) L2,by omega,le_sub ⟨rfl,rfl,rfl,rfl,trivial⟩ ⟨rfl,rfl,trivial⟩ rfl rfl rfl (by simp[keepLt,tkSt,lkH]),i+1,_,D,rfl,by omega,f1,f2,f3,s2,f4,rfl⟩
  · have d5:decide ((i:Int)<(m2:Int))=false:=by simp;omega
    have hgy:(ofN y).getD i 0=0:=by simp[List.getD,List.getElem?_eq_none (show (ofN y).length≤i by omega)]
    rw[hgy]at fin
    have w7:=wrap32 (subW a c)
    have w8:=shr63 (subW a c)
    have hms:=mid_set P C S o1 i (subW a c % 4294967296) hPl hiC
    obtain ⟨s1,s2⟩:=subW_3 hx0 (show 0<4294967296 by decide) hc
    have s0:subW (subW a c) 0=subW a c:=by unfold subW;omega
    rw[s0]at s1 s2
    obtain ⟨D,f1,f2,f3,f4,f5⟩:=fin _ _ (Nat.mod_lt _ (by decide)) s2 s1
    refine wT (A12 @cE_ment @hasK_nil @cE_kill @cE_len @u32_one @u32_app1 @u32_set @Nat.mul_one @tkSt.eq_1 @u32V.eq_1 hat (A11 d1 d2 d3 d4 d5 w3 w4 w7 w8 w9 hms)) ?_
    rw[←f5]
    exact ⟨m1-(i+1),tkSt M 11 13 o1 m1 o2 m2 (i+1) _ (P++(D++S)) L2,by omega,le_sub ⟨rfl,rfl,rfl,rfl,trivial⟩ ⟨rfl,rfl,trivial⟩ rfl rfl rfl (by simp[keepLt,tkSt,lkH]),i+1,_,D,rfl,by omega,f1,f2,f3,s2,f4,rfl⟩
theorem takeB_ok(o1 m1 o2 m2:Nat)(L1 L2:List Nat)(x y:Nat)(hA:OwnN L1 o1 m1 x)(hB:OwnN L2 o2 m2 y)(hb1:L1.length<100000000)(hb2:L2.length<100000000)(hyx:y≤x)(hK:∀L' m',L'.length=L1.length→OwnN L' o1 m' (x-y)→K (.slo 13 o1 m' 1) [(13,79,cE u32V L'),(11,79,cE u32V L2)] M) :
    CallS Tryz.prog 182 [.slo 13 o1 m1 1,.slo 11 o2 m2 1] [(13,79,cE u32V L1),(11,79,cE u32V L2)] M [] K:=by
  refine inlS (cs:=[]) (f:=182) Tryz.mixed Tryz.func182 rfl (by kernel_rfl) 3000 rfl rfl ?_
  simp only[Tryz.f182]
  refine wT (A8 @cE_ment @hasK_nil @cE_kill @cE_len @u32_one @u32_app1 @u32_set @Nat.mul_one) ?_
  have hAle:=hA.le
  have hBle:=hB.le
  have hAlen:=hA.len
  have hBlen:=hB.len
  have hml:m2≤m1:=by rw[hAlen,hBlen];exact len_mono hyx
  have hL:L1=L1.take o1++((L1.drop o1).take m1++L1.drop (o1+m1)):=by
    rw[←List.drop_drop,List.take_append_drop,List.take_append_drop]
  have hPl:(L1.take o1).length=o1:=by rw[List.length_take];omega
  have hoP:=okN_take hA.ok o1
  have hoS:=okN_drop hA.ok (o1+m1)
  rw[hA.eq]at hL
  generalize L1.take o1=P at *
  generalize L1.drop (o1+m1)=S at *
  have hLl:L1.length=o1+(m1+S.length):=by rw[hL,List.length_append,List.length_append,hPl,←hAlen]
  subst hL
  clear hA
  refine ⟨fun d z=>∃i b C,d=m1-i∧i≤m1∧C.length=m1∧okN C∧C.drop i=(ofN x).drop i∧b≤1∧valN (C.take i)+valN ((ofN y).take i)=valN ((ofN x).take i)+wN i*b∧z=tkSt M 13 11 o1 m1 o2 m2 i b (P++(C++S)) L2,
    ⟨m1,tkSt M 13 11 o1 m1 o2 m2 0 0 (P++(ofN x++S)) L2,le_sub ⟨rfl,rfl,rfl,rfl,trivial⟩ ⟨rfl,rfl,trivial⟩ rfl rfl rfl (by simp[keepLt,tkSt,lkH]),⟨0,0,ofN x,rfl,by omega,hAlen.symm,okN_ofN x,rfl,by omega,by simp[valN],rfl⟩⟩,?_⟩
  rintro d z ⟨i,c,C,rfl,hi,hC,hoC,hdr,hc,hval,rfl⟩
  by_cases hlt:i<m1
  case neg=>
    obtain rfl:i=m1:=by omega
    have d1:decide ((i:Int)<(i:Int))=false:=by simp
    rw[take_all (l:=ofN y) (by omega),take_all (l:=ofN x) (by omega),take_all (l:=C) (by omega),valN_ofN,valN_ofN,←hC]at hval
    have hv2:=sub_end hoC hval hyx
    have hok:okN (P++(C++S)):=okN_app.2 ⟨hoP,okN_app.2 ⟨hoC,hoS⟩⟩
    have hol:o1+i≤(P++(C++S)).length:=by simp[hC,hPl]
    have hfl:(P++(C++S)).length=(P++(ofN x++S)).length:=by simp[hC,←hAlen]
    have hpart:((P++(C++S)).drop o1).take i=C:=by
      rw[←hPl,List.drop_left,←hC,List.take_left]
    have hf:=A10 @cE_ment @hasK_nil @cE_kill @cE_len @u32_one @u32_app1 @u32_set @Nat.mul_one @tkSt.eq_1 d1;refine wS ?_;refine yH 189 ?_;refine sF ?_;refine cut_ok 13 o1 i (P++(C++S)) hol (by omega) hok (fun m' c1 c2 c3=>sG ?_);all_goals clear hf
    rw[hpart,hv2]at c1 c2
    refine wG (A8 @cE_ment @hasK_nil @cE_kill @cE_len @u32_one @u32_app1 @u32_set @Nat.mul_one) ?_
    refine hK _ m' hfl ⟨by omega,hok,?_⟩
    have hp2:=congrArg (List.take m') hpart
    rw[List.take_take,Nat.min_eq_left c3]at hp2
    rw[←c1,hp2]
  have hiC:i<C.length:=by omega
  have hix:i<(ofN x).length:=by omega
  have hat:=u32_mid (S:=S) hPl hiC
  have hx0:=okN_at hoC hiC
  have hCi:C[i]=(ofN x)[i]:=by
    have e1:(C.drop i)[0]? = ((ofN x).drop i)[0]?:=by rw[hdr]
    rw[List.getElem?_drop,List.getElem?_drop,Nat.add_zero,List.getElem?_eq_getElem hiC,List.getElem?_eq_getElem hix]at e1
    exact Option.some.inj e1
  have hgx:(ofN x).getD i 0=C[i]:=by simp[List.getD,hix,hCi]
  clear hCi
  have hti:(C.take i).length=i:=by rw[List.length_take];omega
  have d1:decide ((i:Int)<(m1:Int))=true:=by simp;omega
  have d2:(0:Int)≤(i:Int):=by omega
  have d3:(i:Int)<(m1:Int):=by omega
  have d4:(o1+i<(P++(C++S)).length)=True:=by simp[hC,hPl];omega
  have w9:IntKind.i64.wrap ((i:Int)+1)=((i+1:Nat):Int):=succ_i (by omega)
  have fin:∀(r c':Nat),r<4294967296→c'≤1→r+(ofN y).getD i 0+c=C[i]+4294967296*c'→∃D,D.length=m1∧okN D∧D.drop (i+1)=(ofN x).drop (i+1)∧valN (D.take (i+1))+valN ((ofN y).take (i+1))=valN ((ofN x).take (i+1))+wN (i+1)*c'∧D=C.set i r:=fun r c' hr hc' he=>by
    refine ⟨C.set i r,by rw[List.length_set];exact hC,okN_set hoC hr,?_,?_,rfl⟩
    · rw[List.drop_set_of_lt (by omega)]
      have:=congrArg (List.drop 1) hdr
      rw[List.drop_drop,List.drop_drop]at this
      exact this
    · have hv3:valN (C.take i)+valN ((ofN y).take i)=valN ((ofN x).take i)+wN (C.take i).length*c:=by rw[hti];exact hval
      have st:=sub_step hv3 he
      rw[hti]at st
      rw[take_set_self hiC,take_val,take_val,hgx];exact st
  generalize C[i]=a at *
  have w3:IntKind.u64.wrap (a:Int)=(a:Int):=wrap64_id (by omega)
  have w4:IntKind.u64.wrap ((a:Int)-(c:Int))=((subW a c:Nat):Int):=wrap64_sub (by omega)
  by_cases hy:i<m2
  · have hiy:i<(ofN y).length:=by omega
    have hyt:=u32_part hB.le hy (hil:=by rw[List.length_take,List.length_drop];omega)
    have hge:((L2.drop o2).take m2)[i]'(by rw[List.length_take,List.length_drop];omega)=(ofN y)[i]:=by
      simp only[hB.eq]
    rw[hge]at hyt
    have hy0:=ofN_ok_at hiy
    have hgy:(ofN y).getD i 0=(ofN y)[i]:=by simp[List.getD,hiy]
    rw[hgy]at fin
    generalize (ofN y)[i]=b at *
    have d5:decide ((i:Int)<(m2:Int))=true:=by simp;omega
    have d6:(i:Int)<(m2:Int):=by omega
    have w5:IntKind.u64.wrap (b:Int)=(b:Int):=wrap64_id (by omega)
    have w6:IntKind.u64.wrap (((subW a c:Nat):Int)-(b:Int))=((subW (subW a c) b:Nat):Int):=wrap64_sub (by omega)
    have w7:=wrap32 (subW (subW a c) b)
    have w8:=shr63 (subW (subW a c) b)
    have hms:=mid_set P C S o1 i (subW (subW a c) b % 4294967296) hPl hiC
    obtain ⟨s1,s2⟩:=subW_3 hx0 hy0 hc
    obtain ⟨D,f1,f2,f3,f4,f5⟩:=fin _ _ (Nat.mod_lt _ (by decide)) s2 s1
    refine wT (A12 @cE_ment @hasK_nil @cE_kill @cE_len @u32_one @u32_app1 @u32_set @Nat.mul_one @tkSt.eq_1 @u32V.eq_1 hat (A12 hyt d1 d2 d3 d4 d5 d6 w3 w4 w5 w6 (A4 w7 w8 w9 hms))) ?_
    rw[←f5]
    exact ⟨m1-(i+1),tkSt M 13 11 o1 m1 o2 m2 (i+1) _ (P++(D++S)) L2,by omega,le_sub ⟨rfl,rfl,rfl,rfl,trivial⟩ ⟨rfl,rfl,trivial⟩ rfl rfl rfl (by simp[keepLt,tkSt,lkH]),i+1,_,D,rfl,by omega,f1,f2,f3,s2,f4,rfl⟩
  · have d5:decide ((i:Int)<(m2:Int))=false:=by simp;omega
    have hgy:(ofN y).getD i 0=0:=by simp[List.getD,List.getElem?_eq_none (show (ofN y).length≤i by omega)]
    rw[hgy]at fin
    have w7:=wrap32 (subW a c)
    have w8:=shr63 (subW a c)
    have hms:=mid_set P C S o1 i (subW a c % 4294967296) hPl hiC
    obtain ⟨s1,s2⟩:=subW_3 hx0 (show 0<4294967296 by decide) hc
    have s0:subW (subW a c) 0=subW a c:=by unfold subW;omega
    rw[s0]at s1 s2
    obtain ⟨D,f1,f2,f3,f4,f5⟩:=fin _ _ (Nat.mod_lt _ (by decide)) s2 s1
    refine wT (A12 @cE_ment @hasK_nil @cE_kill @cE_len @u32_one @u32_app1 @u32_set @Nat.mul_one @tkSt.eq_1 @u32V.eq_1 hat (A11 d1 d2 d3 d4 d5 w3 w4 w7 w8 w9 hms)) ?_
    rw[←f5]
    exact ⟨m1-(i+1),tkSt M 13 11 o1 m1 o2 m2 (i+1) _ (P++(D++S)) L2,by omega,le_sub ⟨rfl,rfl,rfl,rfl,trivial⟩ ⟨rfl,rfl,trivial⟩ rfl rfl rfl (by simp[keepLt,tkSt,lkH]),i+1,_,D,rfl,by omega,f1,f2,f3,s2,f4,rfl⟩
end
theorem odd_two{q:Nat}(h:q % 2=1)(n:Nat):Nat.Coprime (2^n) q:=by
  have h1:Nat.Coprime 2 q:=by
    show Nat.gcd 2 q=1
    rw[Nat.gcd_rec,h];rfl
  exact Nat.Coprime.pow_left n h1
theorem gcd_two{x y e1 e2 q1 q2:Nat}(hx:x=2^e1*q1)(hy:y=2^e2*q2)(h1:q1 % 2=1)(h2:q2 % 2=1):Nat.gcd x y=Nat.gcd q1 q2*2^(min e1 e2):=by
  subst hx hy
  rcases Nat.le_total e1 e2 with h|h
  · obtain ⟨d,rfl⟩:∃d,e2=e1+d:=⟨e2-e1,by omega⟩
    rw[Nat.min_eq_left h,Nat.pow_add,Nat.mul_assoc,Nat.gcd_mul_left,Nat.mul_comm (Nat.gcd q1 q2),Nat.Coprime.gcd_mul_left_cancel_right _ (odd_two h1 d)]
  · obtain ⟨d,rfl⟩:∃d,e1=e2+d:=⟨e1-e2,by omega⟩
    rw[Nat.min_eq_right h,Nat.pow_add,Nat.mul_assoc,Nat.gcd_mul_left,Nat.mul_comm (Nat.gcd q1 q2),Nat.Coprime.gcd_mul_left_cancel _ (odd_two h2 d)]
theorem gcd_step{a b e q:Nat}(hb:b % 2=1)(h:b≤a)(he:a-b=2^e*q):Nat.gcd q b=Nat.gcd a b:=by
  rw[←Nat.gcd_sub_self_left h,he,Nat.Coprime.gcd_mul_left_cancel _ (odd_two hb e)]
theorem valN_rep0(k:Nat):valN (List.replicate k 0)=0:=by
  induction k with
  | zero=>rfl
  | succ k ih=>simp[List.replicate_succ,valN,ih]
theorem two_plain(k:Nat){s:Nat}(hs:s<32):(List.replicate (k+1) 0).set k (2^s)=ofN (2^(32*k+s)):=by
  have h1:(List.replicate (k+1) 0).set k (2^s)=List.replicate k 0++[2^s]:=by
    rw[List.replicate_succ',List.set_append_right _ _ (by simp)];simp
  have h2:2^s<4294967296:=Nat.pow_lt_pow_right (a:=2) (m:=s) (n:=32) (by decide) hs
  have h3:okN (List.replicate k 0++[2^s]):=okN_app.2 ⟨okN_rep k,fun z hz=>by simp at hz;omega⟩
  have h4:List.replicate k 0++[2^s]=ofN (valN (List.replicate k 0++[2^s])):=canon h3 fun hl h0=>by
    simp at h0
  have h5:valN (List.replicate k 0++[2^s])=2^(32*k+s):=by
    rw[valN_snoc,valN_rep0,List.length_replicate,Nat.zero_add,wN_two,←Nat.pow_add]
  rw[h1,h4,h5]
theorem swap2{k1 k2:Nat}(hne:k1≠k2)(a b:TypeId×List AV)(j:Nat):lkH [(k1,a),(k2,b)] j=lkH [(k2,b),(k1,a)] j:=by
  simp only[lkH]
  by_cases h1:k1=j
  · have h2:¬k2=j:=fun e=>hne (h1.trans e.symm)
    simp[h1,h2]
  · by_cases h2:k2=j<;>simp[h1,h2]
section
variable {M:Mem}{K:AV→Hp→Mem→Prop}
theorem times_bor2(k1 k2 o1 m1 o2 m2:Nat)(hne:k1≠k2)(T:TypeId)(L1 L2:List Nat)(x y:Nat)(h:OwnN L1 o1 m1 x)(g:OwnN L2 o2 m2 y)(hb1:L1.length<100000000)(hb2:L2.length<100000000)(hK:∀w M',Mem.le M M'→IsL M' u32V w (ofN (x*y))→FreshS M w→K (.ext w) [(k1,T,cE u32V L1),(k2,T,cE u32V L2)] M') :
    CallS Tryz.prog 134 [.slo k1 o1 m1 1,.slo k2 o2 m2 1] [(k1,T,cE u32V L1),(k2,T,cE u32V L2)] M [] K:=by
  refine CallS.bor ⟨⟨_,rfl⟩,⟨_,rfl⟩,trivial⟩ fun us M' hM hb'=>?_
  obtain ⟨v1,_,rfl,h1,v2,_,rfl,h2,rfl⟩:=hb'
  have g1:=h1.part (g:=u32V) (L:=L1) (T:=T) (by simp[lkH]) h.le
  have g2:=h2.part (g:=u32V) (L:=L2) (T:=T) (by simp[lkH,hne,hne.symm]) g.le
  rw[h.eq]at g1
  rw[g.eq]at g2
  refine times_ok v1 v2 x y g1 g2 (by have:=h.len;have:=h.le;omega) (by have:=g.len;have:=g.le;omega) fun w M2 h2 h3 h4=>?_
  exact ⟨fun j hj=>rfl,fun M3 h5 h6 _=>hK w M3 h5 (h3.move h4 h6) (h4.le hM)⟩
def cmSt(M:Mem)(ka kb oa ma ob mb e1 e2:Nat)(LA LB:List Nat):St:={env:=[(5,.slo ka oa ma 1),(6,.slo kb ob mb 1),(7,.ext (.int .i64 (e1:Int))),(8,.ext (.int .i64 (e2:Int)))],hp:=[(ka,79,cE u32V LA),(kb,79,cE u32V LB)],M:=M,kb:=0,fx:=[]}
theorem common_ok(u v:Value)(x y:Nat)(hu:IsL M u32V u (ofN x))(hv:IsL M u32V v (ofN y))(hx:(ofN x).length<10000000)(hy:(ofN y).length<10000000)(hK:NatK M K (Nat.gcd x y)):CallS Tryz.prog 168 [.ext u,.ext v] [] M [] K:=by
  refine CallS.frzF ?_
  refine inlS (cs:=[]) Tryz.mixed Tryz.func168 rfl (by kernel_rfl) 0 rfl rfl ?_
  simp only[Tryz.f168]
  have hrow:=hu.row
  have hrow2:=hv.row
  have hmp:List.map AV.ext (List.map u32V (ofN x))=cE u32V (ofN x):=rfl
  have hmp2:List.map AV.ext (List.map u32V (ofN y))=cE u32V (ofN y):=rfl
  by_cases hx0:x=0
  · subst hx0
    have d1:decide (((ofN 0).length:Int)=0)=true:=by rw[ofN_zero];rfl
    rw[Nat.gcd_zero_left]at hK
    refine wT (A12 @cE_ment @hasK_nil @cE_kill @cE_len @u32_one @u32_app1 @u32_set @Nat.mul_one hu.one hv.one hu.len (A8 hu.sl hv.len hv.sl hrow hrow2 hmp hmp2 d1)) ?_
    exact hK.frz rfl
  have hlx:0<(ofN x).length:=by
    rcases Nat.eq_zero_or_pos (ofN x).length with h|h
    · have:=ofN_nil.1 (List.length_eq_zero_iff.1 h);omega
    · exact h
  have d1:decide (((ofN x).length:Int)=0)=false:=by rw[decide_eq_false_iff_not];omega
  by_cases hy0:y=0
  · subst hy0
    have d2:decide (((ofN 0).length:Int)=0)=true:=by rw[ofN_zero];rfl
    rw[Nat.gcd_zero_right]at hK
    refine wT (A12 @cE_ment @hasK_nil @cE_kill @cE_len @u32_one @u32_app1 @u32_set @Nat.mul_one hu.one hv.one hu.len (A9 hu.sl hv.len hv.sl hrow hrow2 hmp hmp2 d1 d2)) ?_
    exact hK.frz rfl
  have hly:0<(ofN y).length:=by
    rcases Nat.eq_zero_or_pos (ofN y).length with h|h
    · have:=ofN_nil.1 (List.length_eq_zero_iff.1 h);omega
    · exact h
  have d2:decide (((ofN y).length:Int)=0)=false:=by rw[decide_eq_false_iff_not];omega
  have hA0:OwnN (ofN x) 0 (ofN x).length x:=⟨by omega,okN_ofN x,by rw[List.drop_zero,List.take_length]⟩
  have hB0:OwnN (ofN y) 0 (ofN y).length y:=⟨by omega,okN_ofN y,by rw[List.drop_zero,List.take_length]⟩
  have hf:=A12 @cE_ment @hasK_nil @cE_kill @cE_len @u32_one @u32_app1 @u32_set @Nat.mul_one hu.one hv.one hu.len (A9 hu.sl hv.len hv.sl hrow hrow2 hmp hmp2 d1 d2);refine wS ?_;refine yH 180 ?_;refine sF ?_;refine zeros_bor 11 0 _ _ (ofN x) x hA0 (by omega) (by omega) (fun e1 q1 r1 r2 r3=>sG ?_);all_goals clear hf
  have hf:=A12 @cE_ment @hasK_nil @cE_kill @cE_len @u32_one @u32_app1 @u32_set @Nat.mul_one hu.one hv.one hu.len (A9 hu.sl hv.len hv.sl hrow hrow2 hmp hmp2 d1 d2);refine wH ?_;refine yH 180 ?_;refine sF ?_;refine zeros_bor 13 0 _ _ (ofN y) y hB0 (by omega) (by omega) (fun e2 q2 s1 s2 s3=>sG ?_);all_goals clear hf
  refine Stop.go ?_
  have hd1:x / 2^e1=q1:=by rw[r2,Nat.mul_div_cancel_left _ (Nat.two_pow_pos e1)]
  have hd2:y / 2^e2=q2:=by rw[s2,Nat.mul_div_cancel_left _ (Nat.two_pow_pos e2)]
  rw[gcd_two r2 s2 r3 s3]at hK
  obtain ⟨e0,he0⟩:∃e,min e1 e2=e:=⟨_,rfl⟩
  rw[he0]at hK
  have hf:=A8 @cE_ment @hasK_nil @cE_kill @cE_len @u32_one @u32_app1 @u32_set @Nat.mul_one;refine wS ?_;refine yH 181 ?_;refine sF ?_;refine down_ok 11 0 _ e1 (ofN x) hA0.le (by omega) (by omega) (okN_ofN x) (fun L1 o1 m1 r4 r5=>sG ?_);all_goals clear hf
  rw[hA0.val,hd1]at r5
  have hf:=A8 @cE_ment @hasK_nil @cE_kill @cE_len @u32_one @u32_app1 @u32_set @Nat.mul_one;refine wH ?_;refine yH 181 ?_;refine sF ?_;refine down_ok 13 0 _ e2 (ofN y) hB0.le (by omega) (by omega) (okN_ofN y) (fun L2 o2 m2 s4 s5=>sG ?_);all_goals clear hf
  rw[hB0.val,hd2]at s5
  refine wG (A8 @cE_ment @hasK_nil @cE_kill @cE_len @u32_one @u32_app1 @u32_set @Nat.mul_one) ?_
  have hes:e0<320000000:=by omega
  have hmn:(if (e2:Int)<(e1:Int) then (e2:Int) else (e1:Int))=(e0:Int):=by split<;>omega
  refine ⟨fun d z=>∃a b oa ma ob mb LA LB,d=a+b∧0<a∧0<b∧a % 2=1∧b % 2=1∧Nat.gcd a b=Nat.gcd q1 q2∧OwnN LA oa ma a∧OwnN LB ob mb b∧LA.length<100000000∧LB.length<100000000∧(z=cmSt M 11 13 oa ma ob mb e1 e2 LA LB∨z=cmSt M 13 11 oa ma ob mb e1 e2 LA LB),
    ⟨q1+q2,cmSt M 11 13 o1 m1 o2 m2 e1 e2 L1 L2,le_sub ⟨rfl,rfl,rfl,rfl,trivial⟩ (by simp[subHp,cmSt,lkH]) rfl rfl rfl (keepLt0 _),⟨q1,q2,_,_,_,_,L1,L2,rfl,by omega,by omega,r3,s3,rfl,r5,s5,by omega,by omega,.inl rfl⟩⟩,?_⟩
  clear hu hv hrow hrow2 hmp hmp2 hA0 hB0 r5 s5
  have htwo:=two_plain (e0 / 32) (s:=e0 % 32) (Nat.mod_lt _ (by decide))
  rw[Nat.div_add_mod]at htwo
  have hz0:AV.ext (Value.int .u32 0) :: List.map AV.ext (repN [Value.int .u32 0] (e0 / 32))=cE u32V (List.replicate (e0 / 32+1) 0):=cE_rep u32V (e0 / 32+1) 0
  have htl:(ofN (2^e0)).length=e0 / 32+1:=by rw[←htwo,List.length_set,List.length_replicate]
  have htw:OwnN (ofN (2^e0)) 0 (e0 / 32+1) (2^e0):=⟨by omega,okN_ofN _,by rw[List.drop_zero,←htl,List.take_length]⟩
  have f0:=hmn
  have f1:IntKind.i64.wrap ((e0:Int).tdiv 32)=((e0 / 32:Nat):Int):=by
    rw[show (32:Int)=((32:Nat):Int) from rfl,←Int.ofNat_tdiv,wrap_id (by omega) (by omega)]
  have f2:IntKind.i64.wrap (((e0 / 32:Nat):Int)+1)=((e0 / 32+1:Nat):Int):=succ_i (by omega)
  have f3:(e0:Int).tmod 32=((e0 % 32:Nat):Int):=by rw[show (32:Int)=((32:Nat):Int) from rfl,←Int.ofNat_tmod]
  have f4:IntKind.u32.wrap ((1:Int)*2^(min (e0 % 32) IntKind.u32.bits))=((2^(e0 % 32):Nat):Int):=by
    have h:=shl32s (t:=1) (s:=e0 % 32) (by rw[Nat.one_mul];exact Nat.pow_lt_pow_right (a:=2) (n:=32) (by decide) (Nat.mod_lt _ (by decide))) (Nat.mod_lt _ (by decide))
    rw[Nat.one_mul]at h
    exact h
  have f5:(0:Int)≤((e0 / 32:Nat):Int):=by omega
  have f6:((e0 / 32:Nat):Int)<((e0 / 32+1:Nat):Int):=by omega
  have f7:(0:Int)≤((e0 % 32:Nat):Int):=by omega
  rintro d z ⟨a,b,oa,ma,ob,mb,LA,LB,rfl,ha0,hbp,ha,hb,hg,hA,hB,hLA,hLB,rfl|rfl⟩
  all_goals
    have hres:a=b→a*2^e0=Nat.gcd q1 q2*2^e0:=fun h=>by rw[←hg,←h,Nat.gcd_self]
  · rcases Nat.lt_trichotomy a b with hab|hab|hab
    · have c1:=cmpN_lt hab
      have hf:=A10 @cE_ment @hasK_nil @cE_kill @cE_len @u32_one @u32_app1 @u32_set @Nat.mul_one @cmSt.eq_1 c1;refine sF ?_;(repeat' ((first|((with_reducible first|refine yA ?_|refine yC ?_);first|refine kH 167 ?_|refine kS 167 (order_bor _ _ _ _ _ _ (by decide) _ _ _ a b hA hB (by omega) (by omega) ?_)|refine kH 167 ?_|refine kS 167 (CallS.order (swap2 (by decide) _ _) (order_bor _ _ _ _ _ _ (by decide) _ _ _ a b hA hB (by omega) (by omega) ⟨_,swap2 (by decide) _ _,?_⟩))|refine kH 182 ?_|refine kS 182 (takeB_ok _ _ _ _ _ _ _ _ hB hA (by omega) (by omega) (by omega) (fun L3 m3 t1 t2=>Stop.mk ?_))|refine kH 182 ?_|refine kS 182 (CallS.order (swap2 (by decide) _ _) (takeB_ok _ _ _ _ _ _ _ _ hB hA (by omega) (by omega) (by omega) (fun L3 m3 t1 t2=>⟨_,swap2 (by decide) _ _,Stop.mk ?_⟩))))|refine oB ?_|fail)<;>refine sF ?_<;>try with_reducible exact tT))<;>try clear hf
      have hf:=A8 @cE_ment @hasK_nil @cE_kill @cE_len @u32_one @u32_app1 @u32_set @Nat.mul_one;refine wH ?_;refine yH 180 ?_;refine sF ?_;refine zeros_bor 13 _ _ _ L3 (b-a) t2 (by omega) (by omega) (fun e q r1 r2 r3=>sG ?_);all_goals clear hf
      have t3:=t2.len
      have t4:=t2.le
      have hgs:=gcd_step (a:=b) (b:=a) (e:=e) (q:=q) (by omega) (by omega) r2
      have hdv:(b-a) / 2^e=q:=by rw[r2,Nat.mul_div_cancel_left _ (Nat.two_pow_pos e)]
      have hqle:q≤b-a:=by rw[←hdv];exact Nat.div_le_self _ _
      have hf:=A8 @cE_ment @hasK_nil @cE_kill @cE_len @u32_one @u32_app1 @u32_set @Nat.mul_one;refine wH ?_;refine yH 181 ?_;refine sF ?_;refine down_ok 13 _ _ e L3 t2.le (by omega) (by omega) t2.ok (fun L4 o4 m4 r4 r5=>sG ?_);all_goals clear hf
      rw[t2.val,hdv]at r5
      refine wG (A8 @cE_ment @hasK_nil @cE_kill @cE_len @u32_one @u32_app1 @u32_set @Nat.mul_one) ?_
      exact ⟨q+a,cmSt M 13 11 o4 m4 oa ma e1 e2 L4 LA,by omega,le_sub ⟨rfl,rfl,rfl,rfl,trivial⟩ (by simp[subHp,cmSt,lkH]) rfl rfl rfl (keepLt0 _),q,a,_,_,_,_,L4,LA,rfl,by omega,by omega,r3,by omega,(by rw[hgs];rw[Nat.gcd_comm];exact hg),r5,hA,by omega,by omega,.inr rfl⟩
    · have c1:cmpN a b=0:=by unfold cmpN;rw[if_neg (by omega),if_pos hab]
      have hf:=A12 @cE_ment @hasK_nil @cE_kill @cE_len @u32_one @u32_app1 @u32_set @Nat.mul_one @cmSt.eq_1 c1 @u32V.eq_1 (A11 @List.length_replicate.{0} f0 f1 f2 f3 f4 f5 f6 f7 hz0 htwo);refine sF ?_;(repeat' ((first|((with_reducible first|refine yA ?_|refine yC ?_);first|refine kH 167 ?_|refine kS 167 (order_bor _ _ _ _ _ _ (by decide) _ _ _ a b hA hB (by omega) (by omega) ?_)|refine kH 167 ?_|refine kS 167 (CallS.order (swap2 (by decide) _ _) (order_bor _ _ _ _ _ _ (by decide) _ _ _ a b hA hB (by omega) (by omega) ⟨_,swap2 (by decide) _ _,?_⟩))|refine kH 134 ?_|refine kS 134 (times_bor2 11 54 _ _ _ _ (by decide) _ _ _ a (2^e0) hA htw (by omega) (by omega) (fun w M' n1 n2 n3=>Stop.mk ?_))|refine kH 134 ?_|refine kS 134 (CallS.order (swap2 (by decide) _ _) (times_bor2 11 54 _ _ _ _ (by decide) _ _ _ a (2^e0) hA htw (by omega) (by omega) (fun w M' n1 n2 n3=>⟨_,swap2 (by decide) _ _,Stop.mk ?_⟩))))|refine oB ?_|fail)<;>refine sF ?_<;>try with_reducible exact tT))<;>try clear hf
      refine wG n2.one ?_
      rw[hres hab]at n2
      exact .inl (hK _ _ n1 n2 n3)
    · have c1:=cmpN_gt hab
      have hf:=A10 @cE_ment @hasK_nil @cE_kill @cE_len @u32_one @u32_app1 @u32_set @Nat.mul_one @cmSt.eq_1 c1;refine sF ?_;(repeat' ((first|((with_reducible first|refine yA ?_|refine yC ?_);first|refine kH 167 ?_|refine kS 167 (order_bor _ _ _ _ _ _ (by decide) _ _ _ a b hA hB (by omega) (by omega) ?_)|refine kH 167 ?_|refine kS 167 (CallS.order (swap2 (by decide) _ _) (order_bor _ _ _ _ _ _ (by decide) _ _ _ a b hA hB (by omega) (by omega) ⟨_,swap2 (by decide) _ _,?_⟩))|refine kH 182 ?_|refine kS 182 (takeA_ok _ _ _ _ _ _ _ _ hA hB (by omega) (by omega) (by omega) (fun L3 m3 t1 t2=>Stop.mk ?_))|refine kH 182 ?_|refine kS 182 (CallS.order (swap2 (by decide) _ _) (takeA_ok _ _ _ _ _ _ _ _ hA hB (by omega) (by omega) (by omega) (fun L3 m3 t1 t2=>⟨_,swap2 (by decide) _ _,Stop.mk ?_⟩))))|refine oB ?_|fail)<;>refine sF ?_<;>try with_reducible exact tT))<;>try clear hf
      have hf:=A8 @cE_ment @hasK_nil @cE_kill @cE_len @u32_one @u32_app1 @u32_set @Nat.mul_one;refine wH ?_;refine yH 180 ?_;refine sF ?_;refine zeros_bor 11 _ _ _ L3 (a-b) t2 (by omega) (by omega) (fun e q r1 r2 r3=>sG ?_);all_goals clear hf
      have t3:=t2.len
      have t4:=t2.le
      have hgs:=gcd_step (a:=a) (b:=b) (e:=e) (q:=q) (by omega) (by omega) r2
      have hdv:(a-b) / 2^e=q:=by rw[r2,Nat.mul_div_cancel_left _ (Nat.two_pow_pos e)]
      have hqle:q≤a-b:=by rw[←hdv];exact Nat.div_le_self _ _
      have hf:=A8 @cE_ment @hasK_nil @cE_kill @cE_len @u32_one @u32_app1 @u32_set @Nat.mul_one;refine wH ?_;refine yH 181 ?_;refine sF ?_;refine down_ok 11 _ _ e L3 t2.le (by omega) (by omega) t2.ok (fun L4 o4 m4 r4 r5=>sG ?_);all_goals clear hf
      rw[t2.val,hdv]at r5
      refine wG (A8 @cE_ment @hasK_nil @cE_kill @cE_len @u32_one @u32_app1 @u32_set @Nat.mul_one) ?_
      exact ⟨q+b,cmSt M 11 13 o4 m4 ob mb e1 e2 L4 LB,by omega,le_sub ⟨rfl,rfl,rfl,rfl,trivial⟩ (by simp[subHp,cmSt,lkH]) rfl rfl rfl (keepLt0 _),q,b,_,_,_,_,L4,LB,rfl,by omega,by omega,r3,by omega,(by rw[hgs];exact hg),r5,hB,by omega,by omega,.inl rfl⟩
  · rcases Nat.lt_trichotomy a b with hab|hab|hab
    · have c1:=cmpN_lt hab
      have hf:=A10 @cE_ment @hasK_nil @cE_kill @cE_len @u32_one @u32_app1 @u32_set @Nat.mul_one @cmSt.eq_1 c1;refine sF ?_;(repeat' ((first|((with_reducible first|refine yA ?_|refine yC ?_);first|refine kH 167 ?_|refine kS 167 (order_bor _ _ _ _ _ _ (by decide) _ _ _ a b hA hB (by omega) (by omega) ?_)|refine kH 167 ?_|refine kS 167 (CallS.order (swap2 (by decide) _ _) (order_bor _ _ _ _ _ _ (by decide) _ _ _ a b hA hB (by omega) (by omega) ⟨_,swap2 (by decide) _ _,?_⟩))|refine kH 182 ?_|refine kS 182 (takeA_ok _ _ _ _ _ _ _ _ hB hA (by omega) (by omega) (by omega) (fun L3 m3 t1 t2=>Stop.mk ?_))|refine kH 182 ?_|refine kS 182 (CallS.order (swap2 (by decide) _ _) (takeA_ok _ _ _ _ _ _ _ _ hB hA (by omega) (by omega) (by omega) (fun L3 m3 t1 t2=>⟨_,swap2 (by decide) _ _,Stop.mk ?_⟩))))|refine oB ?_|fail)<;>refine sF ?_<;>try with_reducible exact tT))<;>try clear hf
      have hf:=A8 @cE_ment @hasK_nil @cE_kill @cE_len @u32_one @u32_app1 @u32_set @Nat.mul_one;refine wH ?_;refine yH 180 ?_;refine sF ?_;refine zeros_bor 11 _ _ _ L3 (b-a) t2 (by omega) (by omega) (fun e q r1 r2 r3=>sG ?_);all_goals clear hf
      have t3:=t2.len
      have t4:=t2.le
      have hgs:=gcd_step (a:=b) (b:=a) (e:=e) (q:=q) (by omega) (by omega) r2
      have hdv:(b-a) / 2^e=q:=by rw[r2,Nat.mul_div_cancel_left _ (Nat.two_pow_pos e)]
      have hqle:q≤b-a:=by rw[←hdv];exact Nat.div_le_self _ _
      have hf:=A8 @cE_ment @hasK_nil @cE_kill @cE_len @u32_one @u32_app1 @u32_set @Nat.mul_one;refine wH ?_;refine yH 181 ?_;refine sF ?_;refine down_ok 11 _ _ e L3 t2.le (by omega) (by omega) t2.ok (fun L4 o4 m4 r4 r5=>sG ?_);all_goals clear hf
      rw[t2.val,hdv]at r5
      refine wG (A8 @cE_ment @hasK_nil @cE_kill @cE_len @u32_one @u32_app1 @u32_set @Nat.mul_one) ?_
      exact ⟨q+a,cmSt M 11 13 o4 m4 oa ma e1 e2 L4 LA,by omega,le_sub ⟨rfl,rfl,rfl,rfl,trivial⟩ (by simp[subHp,cmSt,lkH]) rfl rfl rfl (keepLt0 _),q,a,_,_,_,_,L4,LA,rfl,by omega,by omega,r3,by omega,(by rw[hgs];rw[Nat.gcd_comm];exact hg),r5,hA,by omega,by omega,.inl rfl⟩
    · have c1:cmpN a b=0:=by unfold cmpN;rw[if_neg (by omega),if_pos hab]
      have hf:=A12 @cE_ment @hasK_nil @cE_kill @cE_len @u32_one @u32_app1 @u32_set @Nat.mul_one @cmSt.eq_1 c1 @u32V.eq_1 (A11 @List.length_replicate.{0} f0 f1 f2 f3 f4 f5 f6 f7 hz0 htwo);refine sF ?_;(repeat' ((first|((with_reducible first|refine yA ?_|refine yC ?_);first|refine kH 167 ?_|refine kS 167 (order_bor _ _ _ _ _ _ (by decide) _ _ _ a b hA hB (by omega) (by omega) ?_)|refine kH 167 ?_|refine kS 167 (CallS.order (swap2 (by decide) _ _) (order_bor _ _ _ _ _ _ (by decide) _ _ _ a b hA hB (by omega) (by omega) ⟨_,swap2 (by decide) _ _,?_⟩))|refine kH 134 ?_|refine kS 134 (times_bor2 13 54 _ _ _ _ (by decide) _ _ _ a (2^e0) hA htw (by omega) (by omega) (fun w M' n1 n2 n3=>Stop.mk ?_))|refine kH 134 ?_|refine kS 134 (CallS.order (swap2 (by decide) _ _) (times_bor2 13 54 _ _ _ _ (by decide) _ _ _ a (2^e0) hA htw (by omega) (by omega) (fun w M' n1 n2 n3=>⟨_,swap2 (by decide) _ _,Stop.mk ?_⟩))))|refine oB ?_|fail)<;>refine sF ?_<;>try with_reducible exact tT))<;>try clear hf
      refine wG n2.one ?_
      rw[hres hab]at n2
      exact .inl (hK _ _ n1 n2 n3)
    · have c1:=cmpN_gt hab
      have hf:=A10 @cE_ment @hasK_nil @cE_kill @cE_len @u32_one @u32_app1 @u32_set @Nat.mul_one @cmSt.eq_1 c1;refine sF ?_;(repeat' ((first|((with_reducible first|refine yA ?_|refine yC ?_);first|refine kH 167 ?_|refine kS 167 (order_bor _ _ _ _ _ _ (by decide) _ _ _ a b hA hB (by omega) (by omega) ?_)|refine kH 167 ?_|refine kS 167 (CallS.order (swap2 (by decide) _ _) (order_bor _ _ _ _ _ _ (by decide) _ _ _ a b hA hB (by omega) (by omega) ⟨_,swap2 (by decide) _ _,?_⟩))|refine kH 182 ?_|refine kS 182 (takeB_ok _ _ _ _ _ _ _ _ hA hB (by omega) (by omega) (by omega) (fun L3 m3 t1 t2=>Stop.mk ?_))|refine kH 182 ?_|refine kS 182 (CallS.order (swap2 (by decide) _ _) (takeB_ok _ _ _ _ _ _ _ _ hA hB (by omega) (by omega) (by omega) (fun L3 m3 t1 t2=>⟨_,swap2 (by decide) _ _,Stop.mk ?_⟩))))|refine oB ?_|fail)<;>refine sF ?_<;>try with_reducible exact tT))<;>try clear hf
      have hf:=A8 @cE_ment @hasK_nil @cE_kill @cE_len @u32_one @u32_app1 @u32_set @Nat.mul_one;refine wH ?_;refine yH 180 ?_;refine sF ?_;refine zeros_bor 13 _ _ _ L3 (a-b) t2 (by omega) (by omega) (fun e q r1 r2 r3=>sG ?_);all_goals clear hf
      have t3:=t2.len
      have t4:=t2.le
      have hgs:=gcd_step (a:=a) (b:=b) (e:=e) (q:=q) (by omega) (by omega) r2
      have hdv:(a-b) / 2^e=q:=by rw[r2,Nat.mul_div_cancel_left _ (Nat.two_pow_pos e)]
      have hqle:q≤a-b:=by rw[←hdv];exact Nat.div_le_self _ _
      have hf:=A8 @cE_ment @hasK_nil @cE_kill @cE_len @u32_one @u32_app1 @u32_set @Nat.mul_one;refine wH ?_;refine yH 181 ?_;refine sF ?_;refine down_ok 13 _ _ e L3 t2.le (by omega) (by omega) t2.ok (fun L4 o4 m4 r4 r5=>sG ?_);all_goals clear hf
      rw[t2.val,hdv]at r5
      refine wG (A8 @cE_ment @hasK_nil @cE_kill @cE_len @u32_one @u32_app1 @u32_set @Nat.mul_one) ?_
      exact ⟨q+b,cmSt M 13 11 o4 m4 ob mb e1 e2 L4 LB,by omega,le_sub ⟨rfl,rfl,rfl,rfl,trivial⟩ (by simp[subHp,cmSt,lkH]) rfl rfl rfl (keepLt0 _),q,b,_,_,_,_,L4,LB,rfl,by omega,by omega,r3,by omega,(by rw[hgs];exact hg),r5,hB,by omega,by omega,.inr rfl⟩
end
section
variable {M:Mem}{K:AV→Hp→Mem→Prop}{u1 u2:Value}{l1 l2:List Nat}
theorem rlowest_ok(u v:Value)(n d:Nat)(hu:IsL M u32V u (ofN n))(hv:IsL M u32V v (ofN d))(hn:(ofN n).length<1000000)(hd:(ofN d).length<1000000)(hd0:0<d)
    (hK:∀w1 w2 M',Mem.le M M'→IsL M' u32V w1 (ofN (n / Nat.gcd n d))→IsL M' u32V w2 (ofN (d / Nat.gcd n d))→FreshS M w1→FreshS M w2→K (.ext (.agg #[w1,w2])) [] M'):CallS Tryz.prog 133 [.ext u,.ext v] [] M [] K:=by
  refine inlS (cs:=[]) Tryz.mixed Tryz.func133 rfl (by kernel_rfl) 0 rfl rfl ?_
  simp only[Tryz.f133]
  have hg0:0<Nat.gcd n d:=Nat.gcd_pos_of_pos_right _ hd0
  have hgl:=len_mono (Nat.gcd_le_right n hd0)
  have hf:=A2 hu.one hv.one;refine wS ?_;refine kN 168 (common_ok u v n d hu hv (by omega) (by omega) (fun g M1 a1 a2 a3=>sG ?_));all_goals clear hf
  have a1:Mem.le M M1:=a1
  have hu1:=hu.le a1
  have hv1:=hv.le a1
  have hf:=A3 hu1.one hv1.one a2.one;refine wH ?_;refine kN 169 (split_ok u g n _ hu1 a2 (by omega) (by omega) hg0 (fun q1 r1 M2 b1 b2 b3 b4 b5=>sG ?_));all_goals clear hf
  have b1:Mem.le M1 M2:=b1
  have hv2:=hv1.le b1
  have a2':=a2.le b1
  have hf:=A4 hv2.one a2'.one b2.one b3.one;refine wH ?_;refine kN 169 (split_ok v g d _ hv2 a2' (by omega) (by omega) hg0 (fun q2 r2 M3 c1 c2 c3 c4 c5=>sG ?_));all_goals clear hf
  have c1:Mem.le M2 M3:=c1
  have b2':=b2.le c1
  have b3':=b3.le c1
  refine wG (A4 b2'.one b3'.one c2.one c3.one) ?_
  exact hK _ _ _ ((a1.trans b1).trans c1) b2' c2 (b4.le a1) (c4.le (a1.trans b1))
theorem rflimited_ok{x y:Nat}(h1:IsL M u32V u1 (ofN x))(h2:IsL M u32V u2 (ofN y))(hK1:(ofN x).length≤128→(ofN y).length≤128→K (.ext (.tuple #[.agg #[u1,u2],.int .i64 0])) [] M)
    (hK2:(128<(ofN x).length∨128<(ofN y).length)→K (.ext (.tuple #[.agg #[.slice none 0 0,.slice none 0 0],.int .i64 2])) [] M):CallS Tryz.prog 132 [.ext (.agg #[u1,u2])] [] M [] K:=by
  refine inlS (cs:=[]) Tryz.mixed Tryz.func132 rfl (by kernel_rfl) 0 rfl rfl ?_
  simp only[Tryz.f132]
  by_cases a:(ofN x).length≤128
  · have d1:decide ((128:Int)<((ofN x).length:Int))=false:=by rw[decide_eq_false_iff_not];omega
    by_cases b:(ofN y).length≤128
    · have d2:decide ((128:Int)<((ofN y).length:Int))=false:=by rw[decide_eq_false_iff_not];omega
      refine wT (A8 h1.one h1.len h1.sl h2.one h2.len h2.sl d1 d2) ?_
      exact hK1 a b
    · have d2:decide ((128:Int)<((ofN y).length:Int))=true:=by rw[decide_eq_true_eq];omega
      refine wT (A8 h1.one h1.len h1.sl h2.one h2.len h2.sl d1 d2) ?_
      exact hK2 (.inr (by omega))
  · have d1:decide ((128:Int)<((ofN x).length:Int))=true:=by rw[decide_eq_true_eq];omega
    refine wT (A7 h1.one h1.len h1.sl h2.one h2.len h2.sl d1) ?_
    exact hK2 (.inl (by omega))
theorem rfmake_ok(h1:IsL M u32V u1 l1)(h2:IsL M u32V u2 l2)(o1:okN l1)(o2:okN l2)(b1:l1.length<1000000)(b2:l2.length<1000000)(hK:FracK M K (makF l1 l2)):CallS Tryz.prog 155 [.ext u1,.ext u2] [] M [] K:=by
  refine inlS (cs:=[]) Tryz.mixed Tryz.func155 rfl (by kernel_rfl) 0 rfl rfl ?_
  simp only[Tryz.f155]
  unfold makF at hK
  cases hc1:chkN l1 with
  | false=>
    rw[hc1]at hK
    have hf:=A3 h1.one h2.one hc1;refine sF ?_;(repeat' ((first|((with_reducible refine yN ?_);refine kS 166 (rcheck_ok u1 l1 h1 (by omega) ?_))|refine oB ?_|fail)<;>refine sF ?_<;>try with_reducible exact tT))<;>try clear hf
    exact hK.err _ (Mem.le.refl _)
  | true=>
    cases hc2:chkN l2 with
    | false=>
      rw[hc1,hc2]at hK
      have hf:=A4 h1.one h2.one hc1 hc2;refine sF ?_;(repeat' ((first|((with_reducible refine yN ?_);first|refine kS 166 (rcheck_ok u1 l1 h1 (by omega) ?_)|refine kS 166 (rcheck_ok u2 l2 h2 (by omega) ?_))|refine oB ?_|fail)<;>refine sF ?_<;>try with_reducible exact tT))<;>try clear hf
      exact hK.err _ (Mem.le.refl _)
    | true=>
      rw[hc1,hc2,Bool.and_self,if_pos rfl]at hK
      obtain ⟨e1,x1⟩:=chkN_ok o1 hc1
      obtain ⟨e2,x2⟩:=chkN_ok o2 hc2
      have h1':=h1
      have h2':=h2
      rw[e1]at h1'
      rw[e2]at h2'
      have hz:=nil_iff e2
      by_cases h0:valN l2=0
      · rw[if_pos h0]at hK
        have d1:decide ((l2.length:Int)=0)=true:=by rw[decide_eq_true_eq];have:=hz.2 h0;omega
        have hf:=A7 h1.one h2.one h2.len h2.sl hc1 hc2 d1;refine sF ?_;(repeat' ((first|((with_reducible refine yN ?_);first|refine kS 166 (rcheck_ok u1 l1 h1 (by omega) ?_)|refine kS 166 (rcheck_ok u2 l2 h2 (by omega) ?_))|refine oB ?_|fail)<;>refine sF ?_<;>try with_reducible exact tT))<;>try clear hf
        exact hK.err _ (Mem.le.refl _)
      · rw[if_neg h0]at hK
        have d1:decide ((l2.length:Int)=0)=false:=by rw[decide_eq_false_iff_not];have:=fun h=>h0 (hz.1 h);omega
        have hf:=A7 h1.one h2.one h2.len h2.sl hc1 hc2 d1;refine sF ?_;(repeat' ((first|((with_reducible refine yN ?_);first|refine kS 166 (rcheck_ok u1 l1 h1 (by omega) ?_)|refine kS 166 (rcheck_ok u2 l2 h2 (by omega) ?_)|refine kS 133 (rlowest_ok u1 u2 _ _ h1' h2' (by rw[←e1];omega) (by rw[←e2];omega) (by omega) (fun w1 w2 M1 a1 a2 a3 a4 a5=>Stop.mk ?_)))|refine oB ?_|fail)<;>refine sF ?_<;>try with_reducible exact tT))<;>try clear hf
        refine wG (A2 a2.one a3.one) ?_
        rw[exF_is (by rw[←e1];omega) (by rw[←e2];omega)]at hK
        exact hK _ _ _ a1 a2 a3 a4 a5
theorem rfof_ok(a b:Int)(ha : -9223372036854775808≤a)(ha2:a≤9223372036854775807)(hb : -9223372036854775808≤b)(hb2:b≤9223372036854775807)(hK:FracK M K (ofF a b)):CallS Tryz.prog 110 [.ext (.int .i64 a),.ext (.int .i64 b)] [] M [] K:=by
  refine inlS (cs:=[]) Tryz.mixed Tryz.func110 rfl (by kernel_rfl) 0 rfl rfl ?_
  simp only[Tryz.f110]
  unfold ofF at hK
  by_cases h1:a<0
  · have d1:decide (a<0)=true:=by rw[decide_eq_true_eq];exact h1
    rw[if_pos (.inl h1)]at hK
    refine wT d1 ?_
    exact hK.err _ (Mem.le.refl _)
  have d1:decide (a<0)=false:=by rw[decide_eq_false_iff_not];exact h1
  by_cases h2:b<0
  · have d2:decide (b<0)=true:=by rw[decide_eq_true_eq];exact h2
    rw[if_pos (.inr h2)]at hK
    refine wT (A2 d1 d2) ?_
    exact hK.err _ (Mem.le.refl _)
  have d2:decide (b<0)=false:=by rw[decide_eq_false_iff_not];exact h2
  rw[if_neg (by omega)]at hK
  obtain ⟨x,rfl⟩:=Int.eq_ofNat_of_zero_le (show 0≤a by omega)
  obtain ⟨y,rfl⟩:=Int.eq_ofNat_of_zero_le (show 0≤b by omega)
  have wx:IntKind.u64.wrap (x:Int)=(x:Int):=wrap64_id (by omega)
  have wy:IntKind.u64.wrap (y:Int)=(y:Int):=wrap64_id (by omega)
  have hxl:(ofN x).length≤2:=ofN_len_le (by rw[show wN 2=18446744073709551616 from rfl];omega)
  have hyl:(ofN y).length≤2:=ofN_len_le (by rw[show wN 2=18446744073709551616 from rfl];omega)
  rw[Int.toNat_natCast,Int.toNat_natCast]at hK
  have hf:=A4 d1 d2 wx wy;refine wS ?_;refine kN 138 (rof_ok x (by omega) (fun w1 M1 a1 a2 a3=>sG ?_));all_goals clear hf
  have a1:Mem.le M M1:=a1
  have hf:=A2 a2.one wy;refine wH ?_;refine kN 138 (rof_ok y (by omega) (fun w2 M2 b1 b2 b3=>sG ?_));all_goals clear hf
  have b1:Mem.le M1 M2:=b1
  have a2':=a2.le b1
  have hf:=A2 a2'.one b2.one;refine wH ?_;refine kN 155 (rfmake_ok a2' b2 (okN_ofN _) (okN_ofN _) (by omega) (by omega) (fun w3 w4 M3 c1 c2 c3 c4 c5=>sG ?_));all_goals clear hf
  have c1:Mem.le M2 M3:=c1
  refine wG (A2 c2.one c3.one) ?_
  exact hK _ _ _ ((a1.trans b1).trans c1) c2 c3 (c4.le (a1.trans b1)) (c5.le (a1.trans b1))
theorem rorder_bor2(k n:Nat)(T:TypeId)(u:Value)(x y:Nat)(L:List Nat)(hL:L=ofN y)(hn:n=L.length)(hv:IsL M u32V u (ofN x))(hx:(ofN x).length<100000000)(hy:(ofN y).length<100000000)(hK:K (.ext (.int .i64 (cmpN x y))) [(k,T,cE u32V L)] M) :
    CallS Tryz.prog 167 [.ext u,.slo k 0 n 1] [(k,T,cE u32V L)] M [] K:=by
  refine CallS.bor ⟨⟨_,rfl⟩,trivial⟩ fun us M' hM hb'=>?_
  obtain ⟨v1,_,rfl,h1,v2,_,rfl,h2,rfl⟩:=hb'
  have h1:v1=u:=h1
  subst h1
  have g1:=h2.isL (g:=u32V) (L:=L) (T:=T) (by simp[lkH]) hn
  rw[hL]at g1
  exact rorder_ok v1 v2 x y (hv.le hM) g1 hx hy (BorK.same hK)
theorem cmp_one(g:Nat):decide (cmpN g 1=0)=(g==1):=by
  rw[Bool.eq_iff_iff,decide_eq_true_eq,beq_iff_eq]
  unfold cmpN
  by_cases h:g=1
  · subst h;simp
  · rw[if_neg h]
    constructor
    · intro h2;split at h2<;>omega
    · intro h2;exact absurd h2 h
theorem ofN_1:ofN 1=[1]:=by rw[ofN_pos (by decide),show 1 / 4294967296=0 from rfl,ofN_zero]
theorem rfcheck_ok(h1:IsL M u32V u1 l1)(h2:IsL M u32V u2 l2)(o1:okN l1)(o2:okN l2)(b1:l1.length<1000000)(b2:l2.length<1000000)(hK:∀M',Mem.le M M'→K (.ext (.bool (chkF l1 l2))) [] M'):CallS Tryz.prog 131 [.ext (.agg #[u1,u2])] [] M [] K:=by
  refine inlS (cs:=[]) Tryz.mixed Tryz.func131 rfl (by kernel_rfl) 0 rfl rfl ?_
  simp only[Tryz.f131]
  unfold chkF at hK
  cases hc1:chkN l1 with
  | false=>
    rw[hc1]at hK
    have hf:=A3 h1.one h2.one hc1;refine sF ?_;(repeat' ((first|((with_reducible refine yN ?_);refine kS 166 (rcheck_ok u1 l1 h1 (by omega) ?_))|refine oB ?_|fail)<;>refine sF ?_<;>try with_reducible exact tT))<;>try clear hf
    exact hK _ (Mem.le.refl _)
  | true=>
    cases hc2:chkN l2 with
    | false=>
      rw[hc1,hc2]at hK
      have hf:=A4 h1.one h2.one hc1 hc2;refine sF ?_;(repeat' ((first|((with_reducible refine yN ?_);first|refine kS 166 (rcheck_ok u1 l1 h1 (by omega) ?_)|refine kS 166 (rcheck_ok u2 l2 h2 (by omega) ?_))|refine oB ?_|fail)<;>refine sF ?_<;>try with_reducible exact tT))<;>try clear hf
      exact hK _ (Mem.le.refl _)
    | true=>
      obtain ⟨e1,_⟩:=chkN_ok o1 hc1
      obtain ⟨e2,_⟩:=chkN_ok o2 hc2
      have h1':=h1
      have h2':=h2
      rw[e1]at h1'
      rw[e2]at h2'
      have hz:=nil_iff e2
      by_cases h0:valN l2=0
      · rw[hc1,hc2,decide_eq_true h0]at hK
        have d1:decide ((0:Int)<(l2.length:Int))=false:=by rw[decide_eq_false_iff_not];have:=hz.2 h0;omega
        have hf:=A7 h1.one h2.one h2.len h2.sl hc1 hc2 d1;refine sF ?_;(repeat' ((first|((with_reducible refine yN ?_);first|refine kS 166 (rcheck_ok u1 l1 h1 (by omega) ?_)|refine kS 166 (rcheck_ok u2 l2 h2 (by omega) ?_))|refine oB ?_|fail)<;>refine sF ?_<;>try with_reducible exact tT))<;>try clear hf
        exact hK _ (Mem.le.refl _)
      have d1:decide ((0:Int)<(l2.length:Int))=true:=by rw[decide_eq_true_eq];have:=fun h=>h0 (hz.1 h);omega
      rw[hc1,hc2,decide_eq_false h0]at hK
      have hgl:=len_mono (Nat.gcd_le_right (valN l1) (show 0<valN l2 by omega))
      rw[←e2]at hgl
      have hcm:=cmp_one (Nat.gcd (valN l1) (valN l2))
      have hf:=A7 h1.one h2.one h2.len h2.sl hc1 hc2 d1;refine sF ?_;(repeat' ((first|((with_reducible refine yN ?_);first|refine kS 166 (rcheck_ok u1 l1 h1 (by omega) ?_)|refine kS 166 (rcheck_ok u2 l2 h2 (by omega) ?_)|refine kS 168 (common_ok u1 u2 _ _ h1' h2' (by rw[←e1];omega) (by rw[←e2];omega) (fun g M1 a1 a2 a3=>Stop.mk ?_)))|refine oB ?_|fail)<;>refine sF ?_<;>try with_reducible exact tT))<;>try clear hf
      have a1:Mem.le M M1:=a1
      refine Stop.go ?_
      have hf:=A10 a2.one hcm @cE_ment @hasK_nil @cE_kill @cE_len @u32_one @u32_app1 @u32_set @Nat.mul_one;refine sF ?_;(repeat' ((first|((with_reducible first|refine yA ?_|refine yC ?_);first|refine kH 167 ?_|refine kS 167 (rorder_bor2 23 1 _ g _ 1 [1] ofN_1.symm rfl a2 (by omega) (by rw[ofN_1];decide) ?_))|refine oB ?_|fail)<;>refine sF ?_<;>try with_reducible exact tT))<;>try clear hf
      exact hK _ a1
theorem rforder_ok{v1 v2:Value}{n1 d1 n2 d2:Nat}(i1:IsL M u32V u1 (ofN n1))(i2:IsL M u32V u2 (ofN d1))(j1:IsL M u32V v1 (ofN n2))(j2:IsL M u32V v2 (ofN d2))(b1:(ofN n1).length<400000)(b2:(ofN d1).length<400000)(b3:(ofN n2).length<400000)(b4:(ofN d2).length<400000)(hK:∀M',Mem.le M M'→K (.ext (.int .i64 (cmpN (n1*d2) (n2*d1)))) [] M'):CallS Tryz.prog 139 [.ext (.agg #[u1,u2]),.ext (.agg #[v1,v2])] [] M [] K:=by
  refine inlS (cs:=[]) Tryz.mixed Tryz.func139 rfl (by kernel_rfl) 0 rfl rfl ?_
  simp only[Tryz.f139]
  have t1:=mul_len n1 d2
  have t2:=mul_len n2 d1
  have hm:=Mem.le.refl M
  have hf:=A4 i1.one i2.one j1.one j2.one;refine sF ?_;(repeat' ((first|((with_reducible refine yM ?_);refine kS 134 (times_ok u1 v2 n1 d2 i1 j2 (by omega) (by omega) (fun wx M1 m1 hx fx=>Stop.mk ?_)))|((with_reducible refine isE 5 (by decide) ?_);refine dR ((0,[]) :: (1,[]) :: (2,[1]) :: (3,[1]) :: (5,[1,3]) :: (6,[1,3]) :: (7,[1,3,6]) :: (8,[1,3,6]) :: (4,[6,8]) :: (rP 9 3 [] [])) (rgL 5 9 []) [] ?_)|refine oB ?_|fail)<;>refine sF ?_<;>try with_reducible exact tT))<;>try clear hf
  have m1:Mem.le M M1:=m1
  have i1:=i1.le m1
  have i2:=i2.le m1
  have j1:=j1.le m1
  have j2:=j2.le m1
  have fx:=fx.le hm
  have hm:=hm.trans m1
  refine Stop.go ?_
  have hf:=A5 i1.one i2.one j1.one j2.one hx.one;refine sF ?_;(repeat' ((first|((with_reducible refine yM ?_);refine kS 134 (times_ok v1 u2 n2 d1 j1 i2 (by omega) (by omega) (fun wy M2 m2 hy fy=>Stop.mk ?_)))|((with_reducible refine isE 5 (by decide) ?_);refine dR ((0,[]) :: (1,[]) :: (2,[1]) :: (3,[1]) :: (5,[1,3]) :: (6,[1,3]) :: (7,[1,3,6]) :: (8,[1,3,6]) :: (4,[6,8]) :: (rP 9 3 [] [])) (rgL 5 9 []) [] ?_)|refine oB ?_|fail)<;>refine sF ?_<;>try with_reducible exact tT))<;>try clear hf
  have m2:Mem.le M1 M2:=m2
  have i1:=i1.le m2
  have i2:=i2.le m2
  have j1:=j1.le m2
  have j2:=j2.le m2
  have hx:=hx.le m2
  have fy:=fy.le hm
  have hm:=hm.trans m2
  refine Stop.go ?_
  have hf:=A6 i1.one i2.one j1.one j2.one hx.one hy.one;refine sF ?_;(repeat' ((first|((with_reducible refine yM ?_);refine kS 167 (rorder_ok wx wy _ _ hx hy (by omega) (by omega) ?_))|refine oB ?_|fail)<;>refine sF ?_<;>try with_reducible exact tT))<;>try clear hf
  exact hK _ hm
theorem rfplus_ok{v1 v2:Value}{n1 d1 n2 d2:Nat}(i1:IsL M u32V u1 (ofN n1))(i2:IsL M u32V u2 (ofN d1))(j1:IsL M u32V v1 (ofN n2))(j2:IsL M u32V v2 (ofN d2))(b1:(ofN n1).length<400000)(b2:(ofN d1).length<400000)(b3:(ofN n2).length<400000)(b4:(ofN d2).length<400000)(q3:0<d1)(r3:0<d2)(hK:∀w1 w2 M',Mem.le M M'→IsL M' u32V w1 (ofN ((n1*d2+n2*d1) / Nat.gcd (n1*d2+n2*d1) (d1*d2)))→IsL M' u32V w2 (ofN ((d1*d2) / Nat.gcd (n1*d2+n2*d1) (d1*d2)))→FreshS M w1→FreshS M w2→K (.ext (.agg #[w1,w2])) [] M'):CallS Tryz.prog 156 [.ext (.agg #[u1,u2]),.ext (.agg #[v1,v2])] [] M [] K:=by
  refine inlS (cs:=[]) Tryz.mixed Tryz.func156 rfl (by kernel_rfl) 0 rfl rfl ?_
  simp only[Tryz.f156]
  have t1:=mul_len n1 d2
  have t2:=mul_len n2 d1
  have t3:=mul_len d1 d2
  have t0:0<d1*d2:=Nat.mul_pos q3 r3
  have hm:=Mem.le.refl M
  have hf:=A4 i1.one i2.one j1.one j2.one;refine sF ?_;(repeat' ((first|((with_reducible refine yM ?_);refine kS 134 (times_ok u1 v2 n1 d2 i1 j2 (by omega) (by omega) (fun wx M1 m1 hx fx=>Stop.mk ?_)))|((with_reducible refine isE 5 (by decide) ?_);refine dR ((0,[]) :: (1,[]) :: (2,[1]) :: (3,[1]) :: (5,[1,3]) :: (6,[1,3]) :: (7,[1,3,6]) :: (8,[1,3,6]) :: (11,[1,3,6,8]) :: (12,[1,3,6,8]) :: (13,[1,3,6,8,12]) :: (14,[1,3,6,8,12]) :: (4,[6,8,12,14]) :: (9,[12,14]) :: (10,[12,14]) :: (rP 15 3 [] [])) (rgL 5 15 []) [] ?_)|refine oB ?_|fail)<;>refine sF ?_<;>try with_reducible exact tT))<;>try clear hf
  have m1:Mem.le M M1:=m1
  have i1:=i1.le m1
  have i2:=i2.le m1
  have j1:=j1.le m1
  have j2:=j2.le m1
  have fx:=fx.le hm
  have hm:=hm.trans m1
  refine Stop.go ?_
  have hf:=A5 i1.one i2.one j1.one j2.one hx.one;refine sF ?_;(repeat' ((first|((with_reducible refine yM ?_);refine kS 134 (times_ok v1 u2 n2 d1 j1 i2 (by omega) (by omega) (fun wy M2 m2 hy fy=>Stop.mk ?_)))|((with_reducible refine isE 5 (by decide) ?_);refine dR ((0,[]) :: (1,[]) :: (2,[1]) :: (3,[1]) :: (5,[1,3]) :: (6,[1,3]) :: (7,[1,3,6]) :: (8,[1,3,6]) :: (11,[1,3,6,8]) :: (12,[1,3,6,8]) :: (13,[1,3,6,8,12]) :: (14,[1,3,6,8,12]) :: (4,[6,8,12,14]) :: (9,[12,14]) :: (10,[12,14]) :: (rP 15 3 [] [])) (rgL 5 15 []) [] ?_)|refine oB ?_|fail)<;>refine sF ?_<;>try with_reducible exact tT))<;>try clear hf
  have m2:Mem.le M1 M2:=m2
  have i1:=i1.le m2
  have i2:=i2.le m2
  have j1:=j1.le m2
  have j2:=j2.le m2
  have hx:=hx.le m2
  have fy:=fy.le hm
  have hm:=hm.trans m2
  refine Stop.go ?_
  have hf:=A6 i1.one i2.one j1.one j2.one hx.one hy.one;refine sF ?_;(repeat' ((first|((with_reducible refine yM ?_);refine kS 178 (plus_ok wx wy _ _ hx hy (by omega) (by omega) (fun ws M3 m3 hs fs=>Stop.mk ?_)))|((with_reducible refine isE 5 (by decide) ?_);refine dR ((0,[]) :: (1,[]) :: (2,[1]) :: (3,[1]) :: (5,[1,3]) :: (6,[1,3]) :: (7,[1,3,6]) :: (8,[1,3,6]) :: (11,[1,3,6,8]) :: (12,[1,3,6,8]) :: (13,[1,3,6,8,12]) :: (14,[1,3,6,8,12]) :: (4,[6,8,12,14]) :: (9,[12,14]) :: (10,[12,14]) :: (rP 15 3 [] [])) (rgL 5 15 []) [] ?_)|refine oB ?_|fail)<;>refine sF ?_<;>try with_reducible exact tT))<;>try clear hf
  have m3:Mem.le M2 M3:=m3
  have i1:=i1.le m3
  have i2:=i2.le m3
  have j1:=j1.le m3
  have j2:=j2.le m3
  have hx:=hx.le m3
  have hy:=hy.le m3
  have fs:=fs.le hm
  have hm:=hm.trans m3
  refine Stop.go ?_
  have hf:=A7 i1.one i2.one j1.one j2.one hx.one hy.one hs.one;refine sF ?_;(repeat' ((first|((with_reducible refine yM ?_);refine kS 134 (times_ok u2 v2 d1 d2 i2 j2 (by omega) (by omega) (fun wp M4 m4 hp fp=>Stop.mk ?_)))|((with_reducible refine isE 5 (by decide) ?_);refine dR ((0,[]) :: (1,[]) :: (2,[1]) :: (3,[1]) :: (5,[1,3]) :: (6,[1,3]) :: (7,[1,3,6]) :: (8,[1,3,6]) :: (11,[1,3,6,8]) :: (12,[1,3,6,8]) :: (13,[1,3,6,8,12]) :: (14,[1,3,6,8,12]) :: (4,[6,8,12,14]) :: (9,[12,14]) :: (10,[12,14]) :: (rP 15 3 [] [])) (rgL 5 15 []) [] ?_)|refine oB ?_|fail)<;>refine sF ?_<;>try with_reducible exact tT))<;>try clear hf
  have m4:Mem.le M3 M4:=m4
  have i1:=i1.le m4
  have i2:=i2.le m4
  have j1:=j1.le m4
  have j2:=j2.le m4
  have hx:=hx.le m4
  have hy:=hy.le m4
  have hs:=hs.le m4
  have fp:=fp.le hm
  have hm:=hm.trans m4
  refine Stop.go ?_
  have t5:=add_len (x:=n1*d2) (y:=n2*d1) (k:=800000) (by omega) (by omega)
  have hf:=A8 i1.one i2.one j1.one j2.one hx.one hy.one hs.one hp.one;refine sF ?_;(repeat' ((first|((with_reducible refine yM ?_);refine kS 133 (rlowest_ok ws wp _ _ hs hp (by omega) (by omega) t0 (fun w1 w2 M5 m5 h1 h2 f1 f2=>Stop.mk ?_)))|((with_reducible refine isE 5 (by decide) ?_);refine dR ((0,[]) :: (1,[]) :: (2,[1]) :: (3,[1]) :: (5,[1,3]) :: (6,[1,3]) :: (7,[1,3,6]) :: (8,[1,3,6]) :: (11,[1,3,6,8]) :: (12,[1,3,6,8]) :: (13,[1,3,6,8,12]) :: (14,[1,3,6,8,12]) :: (4,[6,8,12,14]) :: (9,[12,14]) :: (10,[12,14]) :: (rP 15 3 [] [])) (rgL 5 15 []) [] ?_)|refine oB ?_|fail)<;>refine sF ?_<;>try with_reducible exact tT))<;>try clear hf
  have m5:Mem.le M4 M5:=m5
  have i1:=i1.le m5
  have i2:=i2.le m5
  have j1:=j1.le m5
  have j2:=j2.le m5
  have hx:=hx.le m5
  have hy:=hy.le m5
  have hs:=hs.le m5
  have hp:=hp.le m5
  have f1:=f1.le hm
  have f2:=f2.le hm
  have hm:=hm.trans m5
  refine wG (A10 i1.one i2.one j1.one j2.one hx.one hy.one hs.one hp.one h1.one h2.one) ?_
  exact hK _ _ _ hm h1 h2 f1 f2
end
section
variable {M:Mem}{K:AV→Hp→Mem→Prop}{u1 u2 v1 v2:Value}{l1 l2 k1 k2:List Nat}
theorem rfcmp_ok(ha:IsF M u1 u2 l1 l2)(hb:IsF M v1 v2 k1 k2)(hK:∀M',Mem.le M M'→K (.ext (.int .i64 (cmpF l1 l2 k1 k2))) [] M'):CallS Tryz.prog 91 [.ext (.agg #[u1,u2]),.ext (.agg #[v1,v2])] [] M [] K:=by
  refine inlS (cs:=[]) Tryz.mixed Tryz.func91 rfl (by kernel_rfl) 0 rfl rfl ?_
  simp only[Tryz.f91]
  unfold cmpF at hK
  have hf:=A4 ha.n.one ha.d.one hb.n.one hb.d.one;refine wS ?_;refine kN 131 (rfcheck_ok ha.n ha.d ha.on ha.od ha.bn ha.bd (fun M1 m1=>sG ?_));all_goals clear hf
  have m1:Mem.le M M1:=m1
  have ha1:=ha.le m1
  have hb1:=hb.le m1
  refine Stop.go ?_
  cases hc1:chkF l1 l2 with
  | false=>
    rw[hc1]at hK
    refine wT (A4 ha1.n.one ha1.d.one hb1.n.one hb1.d.one) ?_
    exact hK _ m1
  | true=>
  have hf:=A4 ha1.n.one ha1.d.one hb1.n.one hb1.d.one;refine wS ?_;refine kN 131 (rfcheck_ok hb1.n hb1.d hb1.on hb1.od hb1.bn hb1.bd (fun M2 m2=>sG ?_));all_goals clear hf
  have m2:Mem.le M1 M2:=m2
  have ha2:=ha1.le m2
  have hb2:=hb1.le m2
  have hm:=m1.trans m2
  refine Stop.go ?_
  cases hc2:chkF k1 k2 with
  | false=>
    rw[hc1,hc2]at hK
    refine wT (A4 ha2.n.one ha2.d.one hb2.n.one hb2.d.one) ?_
    exact hK _ hm
  | true=>
  rw[hc1,hc2,Bool.and_self,if_pos rfl]at hK
  obtain ⟨n1,d1,hn1,hd1,e1,e2,q1,q2,q3⟩:=ha2.num hc1
  obtain ⟨n2,d2,hn2,hd2,e3,e4,r1,r2,r3⟩:=hb2.num hc2
  rw[e1,e2,e3,e4]at hK
  have t1:=mul_len n1 d2
  have t2:=mul_len n2 d1
  have t3:=mul_len d1 d2
  have t4:=mul_len n1 n2
  have t0:0<d1*d2:=Nat.mul_pos q3 r3
  have hf:=A4 hn1.one hd1.one hn2.one hd2.one;refine wS ?_;refine kN 139 (rforder_ok hn1 hd1 hn2 hd2 (by omega) (by omega) (by omega) (by omega) (fun M3 m3=>sG ?_));all_goals clear hf
  refine wG (A4 hn1.one hd1.one hn2.one hd2.one) ?_
  exact hK _ (hm.trans m3)
theorem rfadd_ok(ha:IsF M u1 u2 l1 l2)(hb:IsF M v1 v2 k1 k2)(hK:FracK M K (addF l1 l2 k1 k2)):CallS Tryz.prog 111 [.ext (.agg #[u1,u2]),.ext (.agg #[v1,v2])] [] M [] K:=by
  refine inlS (cs:=[]) Tryz.mixed Tryz.func111 rfl (by kernel_rfl) 0 rfl rfl ?_
  simp only[Tryz.f111]
  unfold addF at hK
  have hf:=A4 ha.n.one ha.d.one hb.n.one hb.d.one;refine wS ?_;refine kN 131 (rfcheck_ok ha.n ha.d ha.on ha.od ha.bn ha.bd (fun M1 m1=>sG ?_));all_goals clear hf
  have m1:Mem.le M M1:=m1
  have ha1:=ha.le m1
  have hb1:=hb.le m1
  refine Stop.go ?_
  cases hc1:chkF l1 l2 with
  | false=>
    rw[hc1]at hK
    refine wT (A4 ha1.n.one ha1.d.one hb1.n.one hb1.d.one) ?_
    exact hK.err _ m1
  | true=>
  have hf:=A4 ha1.n.one ha1.d.one hb1.n.one hb1.d.one;refine wS ?_;refine kN 131 (rfcheck_ok hb1.n hb1.d hb1.on hb1.od hb1.bn hb1.bd (fun M2 m2=>sG ?_));all_goals clear hf
  have m2:Mem.le M1 M2:=m2
  have ha2:=ha1.le m2
  have hb2:=hb1.le m2
  have hm:=m1.trans m2
  refine Stop.go ?_
  cases hc2:chkF k1 k2 with
  | false=>
    rw[hc1,hc2]at hK
    refine wT (A4 ha2.n.one ha2.d.one hb2.n.one hb2.d.one) ?_
    exact hK.err _ hm
  | true=>
  rw[hc1,hc2,Bool.and_self,if_pos rfl]at hK
  obtain ⟨n1,d1,hn1,hd1,e1,e2,q1,q2,q3⟩:=ha2.num hc1
  obtain ⟨n2,d2,hn2,hd2,e3,e4,r1,r2,r3⟩:=hb2.num hc2
  rw[e1,e2,e3,e4]at hK
  have t1:=mul_len n1 d2
  have t2:=mul_len n2 d1
  have t3:=mul_len d1 d2
  have t4:=mul_len n1 n2
  have t0:0<d1*d2:=Nat.mul_pos q3 r3
  have hf:=A4 hn1.one hd1.one hn2.one hd2.one;refine wS ?_;refine kN 156 (rfplus_ok hn1 hd1 hn2 hd2 (by omega) (by omega) (by omega) (by omega) q3 r3 (fun w1 w2 M3 m3 h1 h2 f1 f2=>sG ?_));all_goals clear hf
  have m3:Mem.le M2 M3:=m3
  have hn1:=hn1.le m3
  have hd1:=hd1.le m3
  have hn2:=hn2.le m3
  have hd2:=hd2.le m3
  have f1:=f1.le hm
  have f2:=f2.le hm
  have hm:=hm.trans m3
  refine Stop.go ?_
  by_cases hl1:(ofN ((n1*d2+n2*d1) / Nat.gcd ((n1*d2+n2*d1)) ((d1*d2)))).length≤128
  · by_cases hl2:(ofN ((d1*d2) / Nat.gcd ((n1*d2+n2*d1)) ((d1*d2)))).length≤128
    · unfold exF at hK
      rw[if_pos ⟨hl1,hl2⟩]at hK
      have hf:=A2 h1.one h2.one;refine sF ?_;(repeat' ((first|((with_reducible refine yN ?_);refine kS 132 (rflimited_ok h1 h2 (fun _ _=>?_) (fun h=>absurd h (fun h=>h.elim (fun h=>by omega) (fun h=>by omega)))))|refine oB ?_|fail)<;>refine sF ?_<;>try with_reducible exact tT))<;>try clear hf
      exact hK _ _ _ hm h1 h2 f1 f2
    · unfold exF at hK
      rw[if_neg (fun h=>hl2 h.2)]at hK
      have hf:=A2 h1.one h2.one;refine sF ?_;(repeat' ((first|((with_reducible refine yN ?_);refine kS 132 (rflimited_ok h1 h2 (fun _ h=>absurd h hl2) (fun _=>?_)))|refine oB ?_|fail)<;>refine sF ?_<;>try with_reducible exact tT))<;>try clear hf
      exact hK.err _ hm
  · unfold exF at hK
    rw[if_neg (fun h=>hl1 h.1)]at hK
    have hf:=A2 h1.one h2.one;refine sF ?_;(repeat' ((first|((with_reducible refine yN ?_);refine kS 132 (rflimited_ok h1 h2 (fun h _=>absurd h hl1) (fun _=>?_)))|refine oB ?_|fail)<;>refine sF ?_<;>try with_reducible exact tT))<;>try clear hf
    exact hK.err _ hm
theorem rfmul_ok(ha:IsF M u1 u2 l1 l2)(hb:IsF M v1 v2 k1 k2)(hK:FracK M K (mulF l1 l2 k1 k2)):CallS Tryz.prog 88 [.ext (.agg #[u1,u2]),.ext (.agg #[v1,v2])] [] M [] K:=by
  refine inlS (cs:=[]) Tryz.mixed Tryz.func88 rfl (by kernel_rfl) 0 rfl rfl ?_
  simp only[Tryz.f88]
  unfold mulF at hK
  have hf:=A4 ha.n.one ha.d.one hb.n.one hb.d.one;refine wS ?_;refine kN 131 (rfcheck_ok ha.n ha.d ha.on ha.od ha.bn ha.bd (fun M1 m1=>sG ?_));all_goals clear hf
  have m1:Mem.le M M1:=m1
  have ha1:=ha.le m1
  have hb1:=hb.le m1
  refine Stop.go ?_
  cases hc1:chkF l1 l2 with
  | false=>
    rw[hc1]at hK
    refine wT (A4 ha1.n.one ha1.d.one hb1.n.one hb1.d.one) ?_
    exact hK.err _ m1
  | true=>
  have hf:=A4 ha1.n.one ha1.d.one hb1.n.one hb1.d.one;refine wS ?_;refine kN 131 (rfcheck_ok hb1.n hb1.d hb1.on hb1.od hb1.bn hb1.bd (fun M2 m2=>sG ?_));all_goals clear hf
  have m2:Mem.le M1 M2:=m2
  have ha2:=ha1.le m2
  have hb2:=hb1.le m2
  have hm:=m1.trans m2
  refine Stop.go ?_
  cases hc2:chkF k1 k2 with
  | false=>
    rw[hc1,hc2]at hK
    refine wT (A4 ha2.n.one ha2.d.one hb2.n.one hb2.d.one) ?_
    exact hK.err _ hm
  | true=>
  rw[hc1,hc2,Bool.and_self,if_pos rfl]at hK
  obtain ⟨n1,d1,hn1,hd1,e1,e2,q1,q2,q3⟩:=ha2.num hc1
  obtain ⟨n2,d2,hn2,hd2,e3,e4,r1,r2,r3⟩:=hb2.num hc2
  rw[e1,e2,e3,e4]at hK
  have t1:=mul_len n1 d2
  have t2:=mul_len n2 d1
  have t3:=mul_len d1 d2
  have t4:=mul_len n1 n2
  have t0:0<d1*d2:=Nat.mul_pos q3 r3
  have hf:=A4 hn1.one hd1.one hn2.one hd2.one;refine sF ?_;(repeat' ((first|((with_reducible refine yM ?_);refine kS 134 (times_ok u1 v1 n1 n2 hn1 hn2 (by omega) (by omega) (fun ws M3 m3 hs fs=>Stop.mk ?_)))|((with_reducible refine isE 15 (by decide) ?_);refine dR ((0,[]) :: (1,[]) :: (2,[1]) :: (3,[1]) :: (5,[1,3]) :: (6,[1,3]) :: (7,[1,3,6]) :: (8,[1,3,6]) :: (4,[6,8]) :: (rP 9 7 [] [])) (rgL 15 9 [27,28]) [] ?_)|refine oB ?_|fail)<;>refine sF ?_<;>try with_reducible exact tT))<;>try clear hf
  have m3:Mem.le M2 M3:=m3
  have hn1:=hn1.le m3
  have hd1:=hd1.le m3
  have hn2:=hn2.le m3
  have hd2:=hd2.le m3
  have fs:=fs.le hm
  have hm:=hm.trans m3
  refine Stop.go ?_
  have hf:=A5 hn1.one hd1.one hn2.one hd2.one hs.one;refine sF ?_;(repeat' ((first|((with_reducible refine yM ?_);refine kS 134 (times_ok u2 v2 d1 d2 hd1 hd2 (by omega) (by omega) (fun wp M4 m4 hp fp=>Stop.mk ?_)))|((with_reducible refine isE 15 (by decide) ?_);refine dR ((0,[]) :: (1,[]) :: (2,[1]) :: (3,[1]) :: (5,[1,3]) :: (6,[1,3]) :: (7,[1,3,6]) :: (8,[1,3,6]) :: (4,[6,8]) :: (rP 9 7 [] [])) (rgL 15 9 [27,28]) [] ?_)|refine oB ?_|fail)<;>refine sF ?_<;>try with_reducible exact tT))<;>try clear hf
  have m4:Mem.le M3 M4:=m4
  have hn1:=hn1.le m4
  have hd1:=hd1.le m4
  have hn2:=hn2.le m4
  have hd2:=hd2.le m4
  have hs:=hs.le m4
  have fp:=fp.le hm
  have hm:=hm.trans m4
  refine Stop.go ?_
  have hf:=A6 hn1.one hd1.one hn2.one hd2.one hs.one hp.one;refine sF ?_;(repeat' ((first|((with_reducible refine yM ?_);refine kS 133 (rlowest_ok ws wp _ _ hs hp (by omega) (by omega) t0 (fun w1 w2 M5 m5 h1 h2 f1 f2=>Stop.mk ?_)))|((with_reducible refine isE 15 (by decide) ?_);refine dR ((0,[]) :: (1,[]) :: (2,[1]) :: (3,[1]) :: (5,[1,3]) :: (6,[1,3]) :: (7,[1,3,6]) :: (8,[1,3,6]) :: (4,[6,8]) :: (rP 9 7 [] [])) (rgL 15 9 [27,28]) [] ?_)|refine oB ?_|fail)<;>refine sF ?_<;>try with_reducible exact tT))<;>try clear hf
  have m5:Mem.le M4 M5:=m5
  have hn1:=hn1.le m5
  have hd1:=hd1.le m5
  have hn2:=hn2.le m5
  have hd2:=hd2.le m5
  have hs:=hs.le m5
  have hp:=hp.le m5
  have f1:=f1.le hm
  have f2:=f2.le hm
  have hm:=hm.trans m5
  refine Stop.go ?_
  by_cases hl1:(ofN ((n1*n2) / Nat.gcd ((n1*n2)) ((d1*d2)))).length≤128
  · by_cases hl2:(ofN ((d1*d2) / Nat.gcd ((n1*n2)) ((d1*d2)))).length≤128
    · unfold exF at hK
      rw[if_pos ⟨hl1,hl2⟩]at hK
      have hf:=A2 h1.one h2.one;refine sF ?_;(repeat' ((first|((with_reducible refine yM ?_);refine kS 132 (rflimited_ok h1 h2 (fun _ _=>?_) (fun h=>absurd h (fun h=>h.elim (fun h=>by omega) (fun h=>by omega)))))|refine oB ?_|fail)<;>refine sF ?_<;>try with_reducible exact tT))<;>try clear hf
      exact hK _ _ _ hm h1 h2 f1 f2
    · unfold exF at hK
      rw[if_neg (fun h=>hl2 h.2)]at hK
      have hf:=A2 h1.one h2.one;refine sF ?_;(repeat' ((first|((with_reducible refine yM ?_);refine kS 132 (rflimited_ok h1 h2 (fun _ h=>absurd h hl2) (fun _=>?_)))|refine oB ?_|fail)<;>refine sF ?_<;>try with_reducible exact tT))<;>try clear hf
      exact hK.err _ hm
  · unfold exF at hK
    rw[if_neg (fun h=>hl1 h.1)]at hK
    have hf:=A2 h1.one h2.one;refine sF ?_;(repeat' ((first|((with_reducible refine yM ?_);refine kS 132 (rflimited_ok h1 h2 (fun h _=>absurd h hl1) (fun _=>?_)))|refine oB ?_|fail)<;>refine sF ?_<;>try with_reducible exact tT))<;>try clear hf
    exact hK.err _ hm
theorem rfdiv_ok(ha:IsF M u1 u2 l1 l2)(hb:IsF M v1 v2 k1 k2)(hK:FracK M K (divF l1 l2 k1 k2)):CallS Tryz.prog 136 [.ext (.agg #[u1,u2]),.ext (.agg #[v1,v2])] [] M [] K:=by
  refine inlS (cs:=[]) Tryz.mixed Tryz.func136 rfl (by kernel_rfl) 0 rfl rfl ?_
  simp only[Tryz.f136]
  unfold divF at hK
  have hf:=A4 ha.n.one ha.d.one hb.n.one hb.d.one;refine wS ?_;refine kN 131 (rfcheck_ok ha.n ha.d ha.on ha.od ha.bn ha.bd (fun M1 m1=>sG ?_));all_goals clear hf
  have m1:Mem.le M M1:=m1
  have ha1:=ha.le m1
  have hb1:=hb.le m1
  refine Stop.go ?_
  cases hc1:chkF l1 l2 with
  | false=>
    rw[hc1]at hK
    refine wT (A4 ha1.n.one ha1.d.one hb1.n.one hb1.d.one) ?_
    exact hK.err _ m1
  | true=>
  have hf:=A4 ha1.n.one ha1.d.one hb1.n.one hb1.d.one;refine wS ?_;refine kN 131 (rfcheck_ok hb1.n hb1.d hb1.on hb1.od hb1.bn hb1.bd (fun M2 m2=>sG ?_));all_goals clear hf
  have m2:Mem.le M1 M2:=m2
  have ha2:=ha1.le m2
  have hb2:=hb1.le m2
  have hm:=m1.trans m2
  refine Stop.go ?_
  cases hc2:chkF k1 k2 with
  | false=>
    rw[hc1,hc2]at hK
    refine wT (A4 ha2.n.one ha2.d.one hb2.n.one hb2.d.one) ?_
    exact hK.err _ hm
  | true=>
  rw[hc1,hc2,Bool.and_self,if_pos rfl]at hK
  obtain ⟨n1,d1,hn1,hd1,e1,e2,q1,q2,q3⟩:=ha2.num hc1
  obtain ⟨n2,d2,hn2,hd2,e3,e4,r1,r2,r3⟩:=hb2.num hc2
  rw[e1,e2,e3,e4]at hK
  have t1:=mul_len n1 d2
  have t2:=mul_len n2 d1
  have t3:=mul_len d1 d2
  have t4:=mul_len n1 n2
  have t0:0<d1*d2:=Nat.mul_pos q3 r3
  by_cases hz:n2=0
  · have z1:decide (((ofN n2).length:Int)=0)=true:=by rw[hz,ofN_zero];rfl
    rw[if_pos hz]at hK
    refine wT (A7 hn1.one hd1.one hn2.one hn2.len hn2.sl hd2.one z1) ?_
    exact hK.err _ hm
  rw[if_neg hz,Nat.mul_comm n2 d1]at hK
  have z1:decide (((ofN n2).length:Int)=0)=false:=by
    rw[decide_eq_false_iff_not]
    intro h
    exact hz (ofN_nil.1 (List.length_eq_zero_iff.1 (by omega)))
  have z0:0<d1*n2:=Nat.mul_pos q3 (by omega)
  rw[Nat.mul_comm n2 d1]at t2
  have hf:=A7 hn1.one hd1.one hn2.one hd2.one hn2.len hn2.sl z1;refine sF ?_;(repeat' ((first|((with_reducible refine yM ?_);refine kS 134 (times_ok u1 v2 n1 d2 hn1 hd2 (by omega) (by omega) (fun ws M3 m3 hs fs=>Stop.mk ?_)))|((with_reducible refine isE 20 (by decide) ?_);refine dR ((0,[]) :: (1,[]) :: (2,[1]) :: (3,[1]) :: (5,[1,3]) :: (6,[1,3]) :: (7,[1,3,6]) :: (8,[1,3,6]) :: (4,[6,8]) :: (rP 9 7 [] [])) (rgL 20 9 [32,33]) [] ?_)|refine oB ?_|fail)<;>refine sF ?_<;>try with_reducible exact tT))<;>try clear hf
  have m3:Mem.le M2 M3:=m3
  have hn1:=hn1.le m3
  have hd1:=hd1.le m3
  have hn2:=hn2.le m3
  have hd2:=hd2.le m3
  have fs:=fs.le hm
  have hm:=hm.trans m3
  refine Stop.go ?_
  have hf:=A5 hn1.one hd1.one hn2.one hd2.one hs.one;refine sF ?_;(repeat' ((first|((with_reducible refine yM ?_);refine kS 134 (times_ok u2 v1 d1 n2 hd1 hn2 (by omega) (by omega) (fun wp M4 m4 hp fp=>Stop.mk ?_)))|((with_reducible refine isE 20 (by decide) ?_);refine dR ((0,[]) :: (1,[]) :: (2,[1]) :: (3,[1]) :: (5,[1,3]) :: (6,[1,3]) :: (7,[1,3,6]) :: (8,[1,3,6]) :: (4,[6,8]) :: (rP 9 7 [] [])) (rgL 20 9 [32,33]) [] ?_)|refine oB ?_|fail)<;>refine sF ?_<;>try with_reducible exact tT))<;>try clear hf
  have m4:Mem.le M3 M4:=m4
  have hn1:=hn1.le m4
  have hd1:=hd1.le m4
  have hn2:=hn2.le m4
  have hd2:=hd2.le m4
  have hs:=hs.le m4
  have fp:=fp.le hm
  have hm:=hm.trans m4
  refine Stop.go ?_
  have hf:=A6 hn1.one hd1.one hn2.one hd2.one hs.one hp.one;refine sF ?_;(repeat' ((first|((with_reducible refine yM ?_);refine kS 133 (rlowest_ok ws wp _ _ hs hp (by omega) (by omega) z0 (fun w1 w2 M5 m5 h1 h2 f1 f2=>Stop.mk ?_)))|((with_reducible refine isE 20 (by decide) ?_);refine dR ((0,[]) :: (1,[]) :: (2,[1]) :: (3,[1]) :: (5,[1,3]) :: (6,[1,3]) :: (7,[1,3,6]) :: (8,[1,3,6]) :: (4,[6,8]) :: (rP 9 7 [] [])) (rgL 20 9 [32,33]) [] ?_)|refine oB ?_|fail)<;>refine sF ?_<;>try with_reducible exact tT))<;>try clear hf
  have m5:Mem.le M4 M5:=m5
  have hn1:=hn1.le m5
  have hd1:=hd1.le m5
  have hn2:=hn2.le m5
  have hd2:=hd2.le m5
  have hs:=hs.le m5
  have hp:=hp.le m5
  have f1:=f1.le hm
  have f2:=f2.le hm
  have hm:=hm.trans m5
  refine Stop.go ?_
  by_cases hl1:(ofN ((n1*d2) / Nat.gcd ((n1*d2)) ((d1*n2)))).length≤128
  · by_cases hl2:(ofN ((d1*n2) / Nat.gcd ((n1*d2)) ((d1*n2)))).length≤128
    · unfold exF at hK
      rw[if_pos ⟨hl1,hl2⟩]at hK
      have hf:=A2 h1.one h2.one;refine sF ?_;(repeat' ((first|((with_reducible refine yM ?_);refine kS 132 (rflimited_ok h1 h2 (fun _ _=>?_) (fun h=>absurd h (fun h=>h.elim (fun h=>by omega) (fun h=>by omega)))))|refine oB ?_|fail)<;>refine sF ?_<;>try with_reducible exact tT))<;>try clear hf
      exact hK _ _ _ hm h1 h2 f1 f2
    · unfold exF at hK
      rw[if_neg (fun h=>hl2 h.2)]at hK
      have hf:=A2 h1.one h2.one;refine sF ?_;(repeat' ((first|((with_reducible refine yM ?_);refine kS 132 (rflimited_ok h1 h2 (fun _ h=>absurd h hl2) (fun _=>?_)))|refine oB ?_|fail)<;>refine sF ?_<;>try with_reducible exact tT))<;>try clear hf
      exact hK.err _ hm
  · unfold exF at hK
    rw[if_neg (fun h=>hl1 h.1)]at hK
    have hf:=A2 h1.one h2.one;refine sF ?_;(repeat' ((first|((with_reducible refine yM ?_);refine kS 132 (rflimited_ok h1 h2 (fun h _=>absurd h hl1) (fun _=>?_)))|refine oB ?_|fail)<;>refine sF ?_<;>try with_reducible exact tT))<;>try clear hf
    exact hK.err _ hm
theorem rfsub_ok(ha:IsF M u1 u2 l1 l2)(hb:IsF M v1 v2 k1 k2)(hK:FracK M K (subF l1 l2 k1 k2)):CallS Tryz.prog 130 [.ext (.agg #[u1,u2]),.ext (.agg #[v1,v2])] [] M [] K:=by
  refine inlS (cs:=[]) Tryz.mixed Tryz.func130 rfl (by kernel_rfl) 0 rfl rfl ?_
  simp only[Tryz.f130]
  unfold subF at hK
  have hf:=A4 ha.n.one ha.d.one hb.n.one hb.d.one;refine wS ?_;refine kN 131 (rfcheck_ok ha.n ha.d ha.on ha.od ha.bn ha.bd (fun M1 m1=>sG ?_));all_goals clear hf
  have m1:Mem.le M M1:=m1
  have ha1:=ha.le m1
  have hb1:=hb.le m1
  refine Stop.go ?_
  cases hc1:chkF l1 l2 with
  | false=>
    rw[hc1]at hK
    refine wT (A4 ha1.n.one ha1.d.one hb1.n.one hb1.d.one) ?_
    exact hK.err _ m1
  | true=>
  have hf:=A4 ha1.n.one ha1.d.one hb1.n.one hb1.d.one;refine wS ?_;refine kN 131 (rfcheck_ok hb1.n hb1.d hb1.on hb1.od hb1.bn hb1.bd (fun M2 m2=>sG ?_));all_goals clear hf
  have m2:Mem.le M1 M2:=m2
  have ha2:=ha1.le m2
  have hb2:=hb1.le m2
  have hm:=m1.trans m2
  refine Stop.go ?_
  cases hc2:chkF k1 k2 with
  | false=>
    rw[hc1,hc2]at hK
    refine wT (A4 ha2.n.one ha2.d.one hb2.n.one hb2.d.one) ?_
    exact hK.err _ hm
  | true=>
  rw[hc1,hc2,Bool.and_self,if_pos rfl]at hK
  obtain ⟨n1,d1,hn1,hd1,e1,e2,q1,q2,q3⟩:=ha2.num hc1
  obtain ⟨n2,d2,hn2,hd2,e3,e4,r1,r2,r3⟩:=hb2.num hc2
  rw[e1,e2,e3,e4]at hK
  have t1:=mul_len n1 d2
  have t2:=mul_len n2 d1
  have t3:=mul_len d1 d2
  have t4:=mul_len n1 n2
  have t0:0<d1*d2:=Nat.mul_pos q3 r3
  by_cases hlt:n1*d2<n2*d1
  · have z1:decide (cmpN (n1*d2) (n2*d1)<0)=true:=by rw[cmpN_lt hlt];decide
    rw[if_pos hlt]at hK
    have hf:=A5 hn1.one hd1.one hn2.one hd2.one z1;refine wS ?_;refine kN 139 (rforder_ok hn1 hd1 hn2 hd2 (by omega) (by omega) (by omega) (by omega) (fun M3 m3=>sG ?_));all_goals clear hf
    refine wG (A5 hn1.one hd1.one hn2.one hd2.one z1) ?_
    exact hK.err _ (hm.trans m3)
  have z1:decide (cmpN (n1*d2) (n2*d1)<0)=false:=by
    rw[decide_eq_false_iff_not];unfold cmpN;rw[if_neg hlt];split<;>omega
  rw[if_neg hlt]at hK
  have t5:=len_mono (show n1*d2-n2*d1≤n1*d2 by omega)
  have hf:=A5 hn1.one hd1.one hn2.one hd2.one z1;refine wS ?_;refine kN 139 (rforder_ok hn1 hd1 hn2 hd2 (by omega) (by omega) (by omega) (by omega) (fun M3 m3=>sG ?_));all_goals clear hf
  have m3:Mem.le M2 M3:=m3
  have hn1:=hn1.le m3
  have hd1:=hd1.le m3
  have hn2:=hn2.le m3
  have hd2:=hd2.le m3
  have hm:=hm.trans m3
  refine Stop.go ?_
  have hf:=A5 hn1.one hd1.one hn2.one hd2.one z1;refine sF ?_;(repeat' ((first|((with_reducible refine yM ?_);refine kS 134 (times_ok u1 v2 n1 d2 hn1 hd2 (by omega) (by omega) (fun wx M4 m4 hx fx=>Stop.mk ?_)))|((with_reducible refine isE 20 (by decide) ?_);refine dR ((0,[]) :: (1,[]) :: (2,[1]) :: (3,[1]) :: (5,[1,3]) :: (6,[1,3]) :: (7,[1,3,6]) :: (8,[1,3,6]) :: (11,[1,3,6,8]) :: (12,[1,3,6,8]) :: (13,[1,3,6,8,12]) :: (14,[1,3,6,8,12]) :: (4,[6,8,12,14]) :: (9,[12,14]) :: (10,[12,14]) :: (rP 15 7 [] [])) (rgL 20 15 [38,39]) [] ?_)|refine oB ?_|fail)<;>refine sF ?_<;>try with_reducible exact tT))<;>try clear hf
  have m4:Mem.le M3 M4:=m4
  have hn1:=hn1.le m4
  have hd1:=hd1.le m4
  have hn2:=hn2.le m4
  have hd2:=hd2.le m4
  have fx:=fx.le hm
  have hm:=hm.trans m4
  refine Stop.go ?_
  have hf:=A5 hn1.one hd1.one hn2.one hd2.one hx.one;refine sF ?_;(repeat' ((first|((with_reducible refine yM ?_);refine kS 134 (times_ok v1 u2 n2 d1 hn2 hd1 (by omega) (by omega) (fun wy M5 m5 hy fy=>Stop.mk ?_)))|((with_reducible refine isE 20 (by decide) ?_);refine dR ((0,[]) :: (1,[]) :: (2,[1]) :: (3,[1]) :: (5,[1,3]) :: (6,[1,3]) :: (7,[1,3,6]) :: (8,[1,3,6]) :: (11,[1,3,6,8]) :: (12,[1,3,6,8]) :: (13,[1,3,6,8,12]) :: (14,[1,3,6,8,12]) :: (4,[6,8,12,14]) :: (9,[12,14]) :: (10,[12,14]) :: (rP 15 7 [] [])) (rgL 20 15 [38,39]) [] ?_)|refine oB ?_|fail)<;>refine sF ?_<;>try with_reducible exact tT))<;>try clear hf
  have m5:Mem.le M4 M5:=m5
  have hn1:=hn1.le m5
  have hd1:=hd1.le m5
  have hn2:=hn2.le m5
  have hd2:=hd2.le m5
  have hx:=hx.le m5
  have fy:=fy.le hm
  have hm:=hm.trans m5
  refine Stop.go ?_
  have hf:=A6 hn1.one hd1.one hn2.one hd2.one hx.one hy.one;refine sF ?_;(repeat' ((first|((with_reducible refine yM ?_);refine kS 165 (minus_ok wx wy _ _ hx hy (by omega) (by omega) (fun ws M6 m6 hs fs=>Stop.mk ?_)))|((with_reducible refine isE 20 (by decide) ?_);refine dR ((0,[]) :: (1,[]) :: (2,[1]) :: (3,[1]) :: (5,[1,3]) :: (6,[1,3]) :: (7,[1,3,6]) :: (8,[1,3,6]) :: (11,[1,3,6,8]) :: (12,[1,3,6,8]) :: (13,[1,3,6,8,12]) :: (14,[1,3,6,8,12]) :: (4,[6,8,12,14]) :: (9,[12,14]) :: (10,[12,14]) :: (rP 15 7 [] [])) (rgL 20 15 [38,39]) [] ?_)|refine oB ?_|fail)<;>refine sF ?_<;>try with_reducible exact tT))<;>try clear hf
  have m6:Mem.le M5 M6:=m6
  have hn1:=hn1.le m6
  have hd1:=hd1.le m6
  have hn2:=hn2.le m6
  have hd2:=hd2.le m6
  have hx:=hx.le m6
  have hy:=hy.le m6
  have fs:=fs.le hm
  have hm:=hm.trans m6
  refine Stop.go ?_
  have hf:=A7 hn1.one hd1.one hn2.one hd2.one hx.one hy.one hs.one;refine sF ?_;(repeat' ((first|((with_reducible refine yM ?_);refine kS 134 (times_ok u2 v2 d1 d2 hd1 hd2 (by omega) (by omega) (fun wp M7 m7 hp fp=>Stop.mk ?_)))|((with_reducible refine isE 20 (by decide) ?_);refine dR ((0,[]) :: (1,[]) :: (2,[1]) :: (3,[1]) :: (5,[1,3]) :: (6,[1,3]) :: (7,[1,3,6]) :: (8,[1,3,6]) :: (11,[1,3,6,8]) :: (12,[1,3,6,8]) :: (13,[1,3,6,8,12]) :: (14,[1,3,6,8,12]) :: (4,[6,8,12,14]) :: (9,[12,14]) :: (10,[12,14]) :: (rP 15 7 [] [])) (rgL 20 15 [38,39]) [] ?_)|refine oB ?_|fail)<;>refine sF ?_<;>try with_reducible exact tT))<;>try clear hf
  have m7:Mem.le M6 M7:=m7
  have hn1:=hn1.le m7
  have hd1:=hd1.le m7
  have hn2:=hn2.le m7
  have hd2:=hd2.le m7
  have hx:=hx.le m7
  have hy:=hy.le m7
  have hs:=hs.le m7
  have fp:=fp.le hm
  have hm:=hm.trans m7
  refine Stop.go ?_
  have hf:=A8 hn1.one hd1.one hn2.one hd2.one hx.one hy.one hs.one hp.one;refine sF ?_;(repeat' ((first|((with_reducible refine yM ?_);refine kS 133 (rlowest_ok ws wp _ _ hs hp (by omega) (by omega) t0 (fun w1 w2 M8 m8 h1 h2 f1 f2=>Stop.mk ?_)))|((with_reducible refine isE 20 (by decide) ?_);refine dR ((0,[]) :: (1,[]) :: (2,[1]) :: (3,[1]) :: (5,[1,3]) :: (6,[1,3]) :: (7,[1,3,6]) :: (8,[1,3,6]) :: (11,[1,3,6,8]) :: (12,[1,3,6,8]) :: (13,[1,3,6,8,12]) :: (14,[1,3,6,8,12]) :: (4,[6,8,12,14]) :: (9,[12,14]) :: (10,[12,14]) :: (rP 15 7 [] [])) (rgL 20 15 [38,39]) [] ?_)|refine oB ?_|fail)<;>refine sF ?_<;>try with_reducible exact tT))<;>try clear hf
  have m8:Mem.le M7 M8:=m8
  have hn1:=hn1.le m8
  have hd1:=hd1.le m8
  have hn2:=hn2.le m8
  have hd2:=hd2.le m8
  have hx:=hx.le m8
  have hy:=hy.le m8
  have hs:=hs.le m8
  have hp:=hp.le m8
  have f1:=f1.le hm
  have f2:=f2.le hm
  have hm:=hm.trans m8
  refine Stop.go ?_
  by_cases hl1:(ofN ((n1*d2-n2*d1) / Nat.gcd ((n1*d2-n2*d1)) ((d1*d2)))).length≤128
  · by_cases hl2:(ofN ((d1*d2) / Nat.gcd ((n1*d2-n2*d1)) ((d1*d2)))).length≤128
    · unfold exF at hK
      rw[if_pos ⟨hl1,hl2⟩]at hK
      have hf:=A2 h1.one h2.one;refine sF ?_;(repeat' ((first|((with_reducible refine yM ?_);refine kS 132 (rflimited_ok h1 h2 (fun _ _=>?_) (fun h=>absurd h (fun h=>h.elim (fun h=>by omega) (fun h=>by omega)))))|refine oB ?_|fail)<;>refine sF ?_<;>try with_reducible exact tT))<;>try clear hf
      exact hK _ _ _ hm h1 h2 f1 f2
    · unfold exF at hK
      rw[if_neg (fun h=>hl2 h.2)]at hK
      have hf:=A2 h1.one h2.one;refine sF ?_;(repeat' ((first|((with_reducible refine yM ?_);refine kS 132 (rflimited_ok h1 h2 (fun _ h=>absurd h hl2) (fun _=>?_)))|refine oB ?_|fail)<;>refine sF ?_<;>try with_reducible exact tT))<;>try clear hf
      exact hK.err _ hm
  · unfold exF at hK
    rw[if_neg (fun h=>hl1 h.1)]at hK
    have hf:=A2 h1.one h2.one;refine sF ?_;(repeat' ((first|((with_reducible refine yM ?_);refine kS 132 (rflimited_ok h1 h2 (fun h _=>absurd h hl1) (fun _=>?_)))|refine oB ?_|fail)<;>refine sF ?_<;>try with_reducible exact tT))<;>try clear hf
    exact hK.err _ hm
end
structure FR where
  u1:Value
  u2:Value
  l1:List Nat
  l2:List Nat
def FR.c(x:FR):List Value:=[x.u1,x.u2]
def frC(L:List FR):List AV:=(L.flatMap FR.c).map .ext
theorem frC_len(L:List FR):(frC L).length=L.length*2:=by
  unfold frC
  rw[List.length_map,flat_len (z:=2) (fun _=>rfl)]
theorem frC_ment(L:List FR):mentL (frC L)=[]:=mentL_ext _
theorem killL_ext(k:Nat):∀vs:List Value,killL k (vs.map .ext)=vs.map .ext
  | []=>rfl
  | v :: r=>by simp only[List.map_cons,killL,AV.kill,killL_ext k r]
theorem frC_kill(k:Nat)(L:List FR):killL k (frC L)=frC L:=killL_ext _ _
theorem frC_app(L:List FR)(x:FR):frC L++[.ext x.u1,.ext x.u2]=frC (L++[x]):=by simp[frC,FR.c]
def okFL(M:Mem)(L:List FR):Prop:=∀x∈L,IsF M x.u1 x.u2 x.l1 x.l2
theorem okFL.le{M M':Mem}{L:List FR}(h:okFL M L)(hM:Mem.le M M'):okFL M' L:=fun x hx=>(h x hx).le hM
def sumG(n d:Nat):List FR→Int×Nat×Nat
  | []=>(0,n,d)
  | x :: r=>if (addF (ofN n) (ofN d) x.l1 x.l2).1=0 then sumG (addF (ofN n) (ofN d) x.l1 x.l2).2.1 (addF (ofN n) (ofN d) x.l1 x.l2).2.2 r else ((addF (ofN n) (ofN d) x.l1 x.l2).1,0,0)
theorem sumG_cons(n d:Nat)(x:FR)(r:List FR):sumG n d (x :: r)=if (addF (ofN n) (ofN d) x.l1 x.l2).1=0 then sumG (addF (ofN n) (ofN d) x.l1 x.l2).2.1 (addF (ofN n) (ofN d) x.l1 x.l2).2.2 r else ((addF (ofN n) (ofN d) x.l1 x.l2).1,0,0):=by rw[sumG]
def sumF(L:List FR):Int×Nat×Nat:=if L.all (fun x=>chkF x.l1 x.l2) then sumG 0 1 L else (1,0,0)
theorem exF_len'(n d:Nat):(ofN (exF n d).2.1).length≤128∧(ofN (exF n d).2.2).length≤128:=by
  unfold exF
  split
  · assumption
  · simp only[ofN_zero];simp
theorem addF_len'(a b c d:List Nat):(ofN (addF a b c d).2.1).length≤128∧(ofN (addF a b c d).2.2).length≤128:=by
  unfold addF
  split
  · exact exF_len' _ _
  · simp only[ofN_zero];simp
theorem sumG_len:∀(L:List FR) (n d:Nat),(ofN n).length≤128→(ofN d).length≤128→(ofN (sumG n d L).2.1).length≤128∧(ofN (sumG n d L).2.2).length≤128
  | [],n,d,h1,h2=>⟨h1,h2⟩
  | x :: r,n,d,h1,h2=>by
    unfold sumG
    split
    · exact sumG_len r _ _ (addF_len' _ _ _ _).1 (addF_len' _ _ _ _).2
    · simp only[ofN_zero];simp
theorem one_short:(ofN 1).length≤128:=by rw[ofN_1];decide
theorem zero_short:(ofN 0).length≤128:=by rw[ofN_zero];decide
theorem sumF_len(L:List FR):(ofN (sumF L).2.1).length≤128∧(ofN (sumF L).2.2).length≤128:=by
  unfold sumF
  split
  · exact sumG_len L 0 1 zero_short one_short
  · simp only[ofN_zero];simp
theorem drop_next{L:List FR}{i:Nat}(h:i<L.length):L.drop i=L[i] :: L.drop (i+1):=List.drop_eq_getElem_cons h
section
variable {M:Mem}{K:AV→Hp→Mem→Prop}{u u1 u2 v1 v2:Value}{l1 l2 k1 k2:List Nat}{L:List FR}
theorem sum1_ok(ha:IsF M u1 u2 l1 l2)(hb:IsF M v1 v2 k1 k2)(hK:FracK M K (addF l1 l2 k1 k2)):CallS Tryz.prog 74 [.ext (.agg #[u1,u2]),.ext (.agg #[v1,v2])] [] M [] K:=by
  refine inlS (cs:=[]) Tryz.mixed Tryz.func74 rfl (by kernel_rfl) 0 rfl rfl ?_
  simp only[Tryz.f74]
  have hf:=A4 ha.n.one ha.d.one hb.n.one hb.d.one;refine wS ?_;refine kN 38 (fadd_ok ha hb (fun w1 w2 M1 a1 a2 a3 a4 a5=>sG ?_));all_goals clear hf
  refine wG (A2 a2.one a3.one) ?_
  exact hK _ _ _ a1 a2 a3 a4 a5
def ffSt(M:Mem)(u w1 w2:Value)(n i:Nat):St:={env:=[(15,.ext (.int .i64 (i:Int))),(14,.ext (.int .i64 (n:Int))),(13,.ext u),(6,.own 6 0),(4,.own 4 0),(1,.fn 74 [])],hp:=[(6,32,[.ext w1,.ext w2]),(4,32,[.ext (.slice none 0 0),.ext (.slice none 0 0)])],M:=M,kb:=0,fx:=[]}
theorem ffold_ok(hu:IsR M 2 FR.c u L)(hL:okFL M L)(hb:L.length<1000000)(hK:FracK M K (sumG 0 1 L)):CallS Tryz.prog 73 [.ext u,.fn 74 []] [] M [] K:=by
  refine inlS (cs:=[]) Tryz.mixed Tryz.func73 rfl (by kernel_rfl) 0 rfl rfl ?_
  simp only[Tryz.f73]
  have hf:=hu.one;refine wS ?_;refine kN 104 (natOf_ok 1 (by decide) (fun w2 M1 a1 a2 a3=>sG ?_));all_goals clear hf
  have a1:Mem.le M M1:=a1
  have hu1:=hu.le a1
  have hL1:=hL.le a1
  refine wG (A4 hu1.one hu1.len hu1.sl a2.one) ?_
  refine ⟨fun m z=>∃M' w1 w2 n d i,m=L.length-i∧i≤L.length∧Mem.le M M'∧IsL M' u32V w1 (ofN n)∧IsL M' u32V w2 (ofN d)∧FreshS M w1∧FreshS M w2∧(ofN n).length≤128∧(ofN d).length≤128∧sumG n d (L.drop i)=sumG 0 1 L∧z=ffSt M' u w1 w2 L.length i,
    ⟨L.length,ffSt M1 u (.slice none 0 0) w2 L.length 0,le_sub ⟨rfl,rfl,rfl,rfl,rfl,rfl,trivial⟩ ⟨rfl,rfl,trivial⟩ rfl rfl rfl (keepLt0 _),⟨M1,_,w2,0,1,0,by omega,by omega,a1,by rw[ofN_zero];exact isL_nil _ _ _,a2,freshS_nil _ _,a3,zero_short,one_short,rfl,rfl⟩⟩,?_⟩
  clear a2 a3 hu1 hL1
  rintro m z ⟨M2,w1,w2,n,d,i,rfl,hi,hM,hw1,hw2,fw1,fw2,hl1,hl2,hs,rfl⟩
  have hu2:=hu.le hM
  have hL2:=hL.le hM
  by_cases hlt:i<L.length
  case neg=>
    obtain rfl:i=L.length:=by omega
    have e1:decide ((L.length:Int)<(L.length:Int))=false:=by simp
    rw[List.drop_length]at hs
    rw[←hs]at hK
    refine wT (A5 @ffSt.eq_1 hu2.one hw1.one hw2.one e1) ?_
    exact hK _ _ _ hM hw1 hw2 fw1 fw2
  have e1:decide ((i:Int)<(L.length:Int))=true:=by rw[decide_eq_true_eq];omega
  have b1:(0:Int)≤(i:Int):=by omega
  have b2:(i:Int)<(L.length:Int):=by omega
  have hnn:=hu2.nn hlt
  have hat:=hu2.at (P:=Tryz.prog) (T:=32) (fun _=>rfl) tk32 tz32 hlt
  have hF:=hL2 _ (List.getElem_mem hlt)
  rw[drop_next hlt]at hs
  have wi:IntKind.i64.wrap ((i:Int)+1)=((i+1:Nat):Int):=succ_i (by omega)
  generalize L[i]=x at *
  obtain ⟨x1,x2,y1,y2⟩:=x
  have hat:lookM Tryz.prog 32 M2 (elemP u 2 i)=some (.agg #[x1,x2]):=hat
  have hF:IsF M2 x1 x2 y1 y2:=hF
  simp only[sumG_cons]at hs
  have hf:=A12 @ffSt.eq_1 hu2.one hu2.len hu2.sl hnn hw1.one hw2.one e1 b1 b2 hat (A2 hF.n.one hF.d.one);refine wS ?_;refine kN 74 (sum1_ok ⟨hw1,hw2,okN_ofN _,okN_ofN _,by omega,by omega⟩ hF (fun v1 v2 M3 c1 c2 c3 c4 c5=>sG ?_));all_goals clear hf
  have c1:Mem.le M2 M3:=c1
  obtain ⟨q1,q2⟩:=addF_len' (ofN n) (ofN d) y1 y2
  refine Stop.go ?_
  by_cases h0:(addF (ofN n) (ofN d) y1 y2).1=0
  · have e2:decide ((addF (ofN n) (ofN d) y1 y2).1=0)=true:=decide_eq_true h0
    rw[if_pos h0]at hs
    refine wT (A4 c2.one c3.one e2 wi) ?_
    exact ⟨L.length-(i+1),ffSt M3 u v1 v2 L.length (i+1),by omega,le_sub ⟨rfl,rfl,rfl,rfl,rfl,rfl,trivial⟩ ⟨rfl,rfl,trivial⟩ rfl rfl rfl (keepLt0 _),M3,v1,v2,_,_,i+1,rfl,by omega,hM.trans c1,c2,c3,c4.le hM,c5.le hM,q1,q2,hs,rfl⟩
  · have e2:decide ((addF (ofN n) (ofN d) y1 y2).1=0)=false:=decide_eq_false h0
    rw[if_neg h0]at hs
    rw[←hs]at hK
    refine wT (A4 c2.one c3.one e2 wi) ?_
    exact hK.err _ (hM.trans c1)
theorem all_take{L:List FR}{i:Nat}(h:∀x∈L.take i,chkF x.l1 x.l2=true)(hi:L.length≤i):L.all (fun x=>chkF x.l1 x.l2)=true:=by
  rw[List.take_of_length_le hi]at h
  exact List.all_eq_true.2 h
theorem all_not{L:List FR}{x:FR}(hx:x∈L)(h:chkF x.l1 x.l2=false):¬L.all (fun x=>chkF x.l1 x.l2)=true:=fun h2=>by
  have:=List.all_eq_true.1 h2 x hx
  rw[h]at this;cases this
theorem take_next{L:List FR}{i:Nat}(h:i<L.length)(hp:∀x∈L.take i,chkF x.l1 x.l2=true)(hx:chkF L[i].l1 L[i].l2=true):∀x∈L.take (i+1),chkF x.l1 x.l2=true:=fun x hm=>by
  rw[List.take_add_one,List.getElem?_eq_getElem h]at hm
  rcases List.mem_append.1 hm with h1|h1
  · exact hp x h1
  · have:x=L[i]:=by simpa using h1
    rw[this];exact hx
def fsSt(M:Mem)(u:Value)(n i:Nat):St:={env:=[(8,.ext (.int .i64 (i:Int))),(7,.ext (.int .i64 (n:Int))),(6,.ext u),(2,.own 2 0),(0,.ext u)],hp:=[(2,32,[.ext (.slice none 0 0),.ext (.slice none 0 0)])],M:=M,kb:=0,fx:=[]}
theorem fsum_ok(hu:IsR M 2 FR.c u L)(hL:okFL M L)(hb:L.length<1000000)(hK:FracK M K (sumF L)):CallS Tryz.prog 37 [.ext u] [] M [] K:=by
  refine inlS (cs:=[]) Tryz.mixed Tryz.func37 rfl (by kernel_rfl) 0 rfl rfl ?_
  simp only[Tryz.f37]
  refine wT (A3 hu.one hu.len hu.sl) ?_
  unfold sumF at hK
  refine ⟨fun m z=>∃M' i,m=L.length-i∧i≤L.length∧Mem.le M M'∧(∀x∈L.take i,chkF x.l1 x.l2=true)∧z=fsSt M' u L.length i,
    ⟨L.length,fsSt M u L.length 0,le_sub ⟨rfl,rfl,rfl,rfl,rfl,trivial⟩ ⟨rfl,trivial⟩ rfl rfl rfl (keepLt0 _),⟨M,0,by omega,by omega,Mem.le.refl _,by simp,rfl⟩⟩,?_⟩
  rintro m z ⟨M2,i,rfl,hi,hM,hp,rfl⟩
  have hu2:=hu.le hM
  have hL2:=hL.le hM
  by_cases hlt:i<L.length
  case neg=>
    obtain rfl:i=L.length:=by omega
    have e1:decide ((L.length:Int)<(L.length:Int))=false:=by simp
    rw[if_pos (all_take hp (Nat.le_refl _))]at hK
    have hf:=A3 @fsSt.eq_1 hu2.one e1;refine wS ?_;refine kN 73 (ffold_ok hu2 hL2 hb (fun v1 v2 M3 c1 c2 c3 c4 c5=>sG ?_));all_goals clear hf
    refine wG (A2 c2.one c3.one) ?_
    exact hK _ _ _ (hM.trans c1) c2 c3 (c4.le hM) (c5.le hM)
  have e1:decide ((i:Int)<(L.length:Int))=true:=by rw[decide_eq_true_eq];omega
  have b1:(0:Int)≤(i:Int):=by omega
  have b2:(i:Int)<(L.length:Int):=by omega
  have hnn:=hu2.nn hlt
  have hat:=hu2.at (P:=Tryz.prog) (T:=32) (fun _=>rfl) tk32 tz32 hlt
  have hmem:=List.getElem_mem hlt
  have hF:=hL2 _ hmem
  have hnx:=take_next hlt hp
  have wi:IntKind.i64.wrap ((i:Int)+1)=((i+1:Nat):Int):=succ_i (by omega)
  generalize L[i]=x at *
  obtain ⟨x1,x2,y1,y2⟩:=x
  have hat:lookM Tryz.prog 32 M2 (elemP u 2 i)=some (.agg #[x1,x2]):=hat
  have hF:IsF M2 x1 x2 y1 y2:=hF
  have hf:=A11 @fsSt.eq_1 hu2.one hu2.len hu2.sl hnn e1 b1 b2 hat hF.n.one hF.d.one;refine wS ?_;refine kN 55 (fcheck_ok hF.n hF.d hF.on hF.od hF.bn hF.bd (fun M3 c1=>sG ?_));all_goals clear hf
  have c1:Mem.le M2 M3:=c1
  have hF:=hF.le c1
  refine Stop.go ?_
  cases hc:chkF y1 y2 with
  | true=>
    refine wT (A3 hF.n.one hF.d.one wi) ?_
    exact ⟨L.length-(i+1),fsSt M3 u L.length (i+1),by omega,le_sub ⟨rfl,rfl,rfl,rfl,rfl,trivial⟩ ⟨rfl,trivial⟩ rfl rfl rfl (keepLt0 _),M3,i+1,rfl,by omega,hM.trans c1,hnx hc,rfl⟩
  | false=>
    rw[if_neg (all_not hmem hc)]at hK
    refine wT (A3 hF.n.one hF.d.one wi) ?_
    exact hK.err _ (hM.trans c1)
def rsaSt(M:Mem)(u:Value)(i:Nat):St:={env:=[(4,.ext (.int .i64 (i:Int))),(2,.own 2 0),(0,.ext u)],hp:=[(2,32,[.ext (.slice none 0 0),.ext (.slice none 0 0)])],M:=M,kb:=0,fx:=[]}
def rsbSt(M:Mem)(u w1:Value)(v:AV)(d:List Nat)(i:Nat):St:={env:=[(6,.ext (.int .i64 (i:Int))),(5,.own 5 0),(2,.own 2 0),(0,.ext u)],hp:=[(5,32,[.ext w1,v]),(2,32,[.ext (.slice none 0 0),.ext (.slice none 0 0)])],M:=M,kb:=0,fx:=[]}
theorem rfzero_ok(hK:∀w M',Mem.le M M'→IsL M' u32V w (ofN 1)→FreshS M w→K (.ext (.agg #[.slice none 0 0,w])) [] M'):CallS Tryz.prog 171 [] [] M [] K:=by
  refine CallS.frzF ?_
  refine inlS (cs:=[]) Tryz.mixed Tryz.func171 rfl (by kernel_rfl) 0 rfl rfl ?_
  simp only[Tryz.f171]
  refine sU ?_;(repeat' ((first|refine oB ?_|fail)<;>refine sU ?_<;>try with_reducible exact tT))
  rw[ofN_1]at hK
  exact .inr ⟨some false,[.ext (.slice none 0 0)],[],1,1,1,_,[u32V 1],[],rfl,rfl,rfl,rfl,rfl,rfl,fun w M1 a1 a2 a3=>hK w M1 a1 a2 a3⟩
theorem rfsum_ok(hu:IsR M 2 FR.c u L)(hL:okFL M L)(hb:L.length<1000000)(hK:FracK M K (sumF L)):CallS Tryz.prog 135 [.ext u] [] M [] K:=by
  refine inlS (cs:=[]) Tryz.mixed Tryz.func135 rfl (by kernel_rfl) 0 rfl rfl ?_
  simp only[Tryz.f135]
  refine wT (A3 hu.one hu.len hu.sl) ?_
  unfold sumF at hK
  refine ⟨fun m z=>∃M' i,m=L.length-i∧i≤L.length∧Mem.le M M'∧(∀x∈L.take i,chkF x.l1 x.l2=true)∧z=rsaSt M' u i,
    ⟨L.length,rsaSt M u 0,le_sub ⟨rfl,rfl,rfl,trivial⟩ ⟨rfl,trivial⟩ rfl rfl rfl (keepLt0 _),⟨M,0,by omega,by omega,Mem.le.refl _,by simp,rfl⟩⟩,?_⟩
  rintro m z ⟨M2,i,rfl,hi,hM,hp,rfl⟩
  have hu2:=hu.le hM
  have hL2:=hL.le hM
  by_cases hlt:i<L.length
  · have e1:decide ((i:Int)<(L.length:Int))=true:=by rw[decide_eq_true_eq];omega
    have b1:(0:Int)≤(i:Int):=by omega
    have b2:(i:Int)<(L.length:Int):=by omega
    have hnn:=hu2.nn hlt
    have hat:=hu2.at (P:=Tryz.prog) (T:=32) (fun _=>rfl) tk32 tz32 hlt
    have hmem:=List.getElem_mem hlt
    have hF:=hL2 _ hmem
    have hnx:=take_next hlt hp
    have wi:IntKind.i64.wrap ((i:Int)+1)=((i+1:Nat):Int):=succ_i (by omega)
    generalize L[i]=x at *
    obtain ⟨x1,x2,y1,y2⟩:=x
    have hat:lookM Tryz.prog 32 M2 (elemP u 2 i)=some (.agg #[x1,x2]):=hat
    have hF:IsF M2 x1 x2 y1 y2:=hF
    have hf:=A11 @rsaSt.eq_1 hu2.one hu2.len hu2.sl hnn e1 b1 b2 hat hF.n.one hF.d.one;refine wS ?_;refine kN 131 (rfcheck_ok hF.n hF.d hF.on hF.od hF.bn hF.bd (fun M3 c1=>sG ?_));all_goals clear hf
    have c1:Mem.le M2 M3:=c1
    have hF:=hF.le c1
    refine Stop.go ?_
    cases hc:chkF y1 y2 with
    | true=>
      refine wT (A3 hF.n.one hF.d.one wi) ?_
      exact ⟨L.length-(i+1),rsaSt M3 u (i+1),by omega,le_sub ⟨rfl,rfl,rfl,trivial⟩ ⟨rfl,trivial⟩ rfl rfl rfl (keepLt0 _),M3,i+1,rfl,by omega,hM.trans c1,hnx hc,rfl⟩
    | false=>
      rw[if_neg (all_not hmem hc)]at hK
      refine wT (A3 hF.n.one hF.d.one wi) ?_
      exact hK.err _ (hM.trans c1)
  obtain rfl:i=L.length:=by omega
  have e1:decide ((L.length:Int)<(L.length:Int))=false:=by simp
  rw[if_pos (all_take hp (Nat.le_refl _))]at hK
  clear hp hi hlt
  have hf:=A5 @rsaSt.eq_1 hu2.one hu2.len hu2.sl e1;refine wS ?_;refine kN 171 (rfzero_ok (fun w M3 c1 c2 c3=>sG ?_));all_goals clear hf
  have c1:Mem.le M2 M3:=c1
  have hM:=hM.trans c1
  have c3:=c3.le (‹Mem.le M M2›)
  refine wG c2.one ?_
  clear hu2 hL2 e1
  refine ⟨fun m z=>∃M' w1 w2 n d i,m=L.length-i∧i≤L.length∧Mem.le M M'∧IsL M' u32V w1 (ofN n)∧IsL M' u32V w2 (ofN d)∧FreshS M w1∧FreshS M w2∧(ofN n).length≤128∧(ofN d).length≤128∧sumG n d (L.drop i)=sumG 0 1 L∧z=rsbSt M' u w1 (.ext w2) [] i,
    ⟨L.length,rsbSt M3 u (.slice none 0 0) (.ext w) [] 0,le_sub ⟨rfl,rfl,rfl,rfl,trivial⟩ ⟨rfl,rfl,trivial⟩ rfl rfl rfl (keepLt0 _),⟨M3,_,w,0,1,0,by omega,by omega,hM,by rw[ofN_zero];exact isL_nil _ _ _,c2,freshS_nil _ _,c3,zero_short,one_short,rfl,rfl⟩⟩,?_⟩
  clear c1 c2 c3 hM
  rintro m z ⟨M2,w1,w2,n,d,i,rfl,hi,hM,hw1,hw2,fw1,fw2,hl1,hl2,hs,rfl⟩
  have hu2:=hu.le hM
  have hL2:=hL.le hM
  by_cases hlt:i<L.length
  case neg=>
    obtain rfl:i=L.length:=by omega
    have e1:decide ((L.length:Int)<(L.length:Int))=false:=by simp
    rw[List.drop_length]at hs
    rw[←hs]at hK
    refine wT (A7 @rsbSt.eq_1 hu2.one hu2.len hu2.sl hw1.one hw2.one e1) ?_
    exact hK _ _ _ hM hw1 hw2 fw1 fw2
  have e1:decide ((i:Int)<(L.length:Int))=true:=by rw[decide_eq_true_eq];omega
  have b1:(0:Int)≤(i:Int):=by omega
  have b2:(i:Int)<(L.length:Int):=by omega
  have hnn:=hu2.nn hlt
  have hat:=hu2.at (P:=Tryz.prog) (T:=32) (fun _=>rfl) tk32 tz32 hlt
  have hF:=hL2 _ (List.getElem_mem hlt)
  rw[drop_next hlt]at hs
  have wi:IntKind.i64.wrap ((i:Int)+1)=((i+1:Nat):Int):=succ_i (by omega)
  generalize L[i]=x at *
  obtain ⟨x1,x2,y1,y2⟩:=x
  have hat:lookM Tryz.prog 32 M2 (elemP u 2 i)=some (.agg #[x1,x2]):=hat
  have hF:IsF M2 x1 x2 y1 y2:=hF
  simp only[sumG_cons]at hs
  have hf:=A12 @rsbSt.eq_1 hu2.one hu2.len hu2.sl hnn hw1.one hw2.one e1 b1 b2 hat (A2 hF.n.one hF.d.one);refine sF ?_;(repeat' ((first|((with_reducible refine yM ?_);refine kS 111 (rfadd_ok ⟨hw1,hw2,okN_ofN _,okN_ofN _,by omega,by omega⟩ hF (fun v1 v2 M3 c1 c2 c3 c4 c5=>Stop.mk ?_)))|((with_reducible refine isE 30 (by decide) ?_);refine dR ((0,[]) :: (rP 1 4 [0] ((9,[0,4]) :: (rP 5 4 [] [(10,[]),(11,[])])))) (7 :: (rgL 29 9 [])) [] ?_)|refine oB ?_|fail)<;>refine sF ?_<;>try with_reducible exact tT))<;>try clear hf
  have c1:Mem.le M2 M3:=c1
  obtain ⟨q1,q2⟩:=addF_len' (ofN n) (ofN d) y1 y2
  refine Stop.go ?_
  by_cases h0:(addF (ofN n) (ofN d) y1 y2).1=0
  · have e2:decide ((addF (ofN n) (ofN d) y1 y2).1=0)=true:=decide_eq_true h0
    rw[if_pos h0]at hs
    refine wT (A4 c2.one c3.one e2 wi) ?_
    exact ⟨L.length-(i+1),rsbSt M3 u v1 (.ext v2) [] (i+1),by omega,le_sub ⟨rfl,rfl,rfl,rfl,trivial⟩ ⟨rfl,rfl,trivial⟩ rfl rfl rfl (keepLt0 _),M3,v1,v2,_,_,i+1,rfl,by omega,hM.trans c1,c2,c3,c4.le hM,c5.le hM,q1,q2,hs,rfl⟩
  · have e2:decide ((addF (ofN n) (ofN d) y1 y2).1=0)=false:=decide_eq_false h0
    rw[if_neg h0]at hs
    rw[←hs]at hK
    refine wT (A4 c2.one c3.one e2 wi) ?_
    exact hK.err _ (hM.trans c1)
theorem BorV.isR{M:Mem}{H:Hp}{k n:Nat}{L:List FR}{u:Value}{T:TypeId}(h:BorV M H (.slo k 0 n 2) u)(hk:lkH H k=some (T,frC L))(hn:n=L.length):IsR M 2 FR.c u L:=by
  have hl:=flat_len (z:=2) (f:=FR.c) (fun _=>rfl) L
  have:=h T (L.flatMap FR.c) hk (by omega)
  rw[List.drop_zero,List.take_of_length_le (by omega),hn]at this
  exact this
end
theorem ofN_u32{n:Nat}(h0:0<n)(h:n<4294967296):ofN n=[n]:=by
  rw[ofN_pos (by omega),Nat.div_eq_of_lt h,Nat.mod_eq_of_lt h,ofN_zero]
theorem low_lt{n y:Nat}(h:n<y):n / Nat.gcd n y<y / Nat.gcd n y:=by
  have h1:=Nat.div_mul_cancel (Nat.gcd_dvd_left n y)
  have h2:=Nat.div_mul_cancel (Nat.gcd_dvd_right n y)
  rcases Nat.lt_or_ge (n / Nat.gcd n y) (y / Nat.gcd n y) with h3|h3
  · exact h3
  · have:=Nat.mul_le_mul_right (Nat.gcd n y) h3
    omega
theorem FrzF.agg1{K:AV→Hp→Mem→Prop}{H:Hp}{M':Mem}{k n:Nat}{T:TypeId}(x:Value)(cs:List Value)(h1:lkH H k=none)(h2:cs.length=n)(h:∀u M'',Mem.le M' M''→SlM M'' 1 u n cs→FreshS M' u→K (.ext (.agg #[x,u])) [] M''):FrzF K H (.ag false [.ext x,.slo k 0 n 1]) [(k,T,cs.map .ext)] M':=
  .inr ⟨some false,[.ext x],[],k,n,1,T,cs,[],rfl,rfl,rfl,h1,by omega,rfl,h⟩
theorem FrzF.agg2{K:AV→Hp→Mem→Prop}{H:Hp}{M':Mem}{k j n m:Nat}{T T':TypeId}(cs ds:List Value)(h1:lkH H k=none)(h1':lkH H j=none)(h2:cs.length=n)(h2':ds.length=m)(hkj:j≠k)(h:∀u u' M'',Mem.le M' M''→SlM M'' 1 u n cs→SlM M'' 1 u' m ds→FreshS M' u→FreshS M' u'→K (.ext (.agg #[u,u'])) [] M'') :
    FrzF (FrzF K H) H (.ag false [.slo k 0 n 1,.slo j 0 m 1]) [(k,T,cs.map .ext),(j,T',ds.map .ext)] M':=by
  refine .inr ⟨some false,[],[.slo j 0 m 1],k,n,1,T,cs,[(j,T',ds.map .ext)],rfl,rfl,?_,h1,by omega,?_,fun u M'' hM hs hf=>?_⟩
  · simp[lkH,hkj]
  · simp[mentL,AV.ment,mentH,mentL_ext,hasK,hkj]
  · refine .inr ⟨some false,[.ext u],[],j,m,1,T',ds,[],rfl,rfl,rfl,h1',by omega,rfl,fun u' M3 hM3 hs3 hf3=>?_⟩
    exact h u u' M3 (hM.trans hM3) (hs.le hM3) hs3 hf (hf3.le hM)
section
variable {M:Mem}{K:AV→Hp→Mem→Prop}
def smlSt(M:Mem)(num den:Nat)(a b:Nat):St:={env:=[(6,.ext (.int .i64 (b:Int))),(5,.ext (.int .i64 (a:Int))),(4,.own 4 0),(0,.ext (.int .i64 (num:Int))),(1,.ext (.int .i64 (den:Int)))],hp:=[(4,32,[.ext (.slice none 0 0),.ext (.slice none 0 0)])],M:=M,kb:=0,fx:=[]}
theorem sml_ok(num den:Nat)(hn:num≤2147483648)(hd:0<den)(hd2:den≤2147483648)
    (hK:∀w1 w2 M',Mem.le M M'→IsL M' u32V w1 (ofN (num / Nat.gcd num den))→IsL M' u32V w2 (ofN (den / Nat.gcd num den))→FreshS M w1→FreshS M w2→K (.ext (.agg #[w1,w2])) [] M'):CallS Tryz.prog 12 [.ext (.int .i64 (num:Int)),.ext (.int .i64 (den:Int))] [] M [] K:=by
  refine CallS.frzF (CallS.frzF ?_)
  refine inlS (cs:=[]) Tryz.mixed Tryz.func12 rfl (by kernel_rfl) 0 rfl rfl ?_
  simp only[Tryz.f12]
  refine sU ?_;(repeat' ((first|((with_reducible refine isE 12 (by decide) ?_);refine dR (rP 0 6 [] []) (rgL 12 4 []) [5] ?_)|refine oB ?_|fail)<;>refine sU ?_<;>try with_reducible exact tT))
  refine ⟨fun m z=>∃a b,b=m∧Nat.gcd a b=Nat.gcd num den∧a≤2147483648∧b≤2147483648∧z=smlSt M num den a b,⟨den,smlSt M num den num den,le_sub ⟨rfl,rfl,rfl,rfl,rfl,trivial⟩ ⟨rfl,trivial⟩ rfl rfl rfl (keepLt0 _),⟨num,den,rfl,rfl,hn,hd2,rfl⟩⟩,?_⟩
  rintro m z ⟨a,b,rfl,hg,ha,hb,rfl⟩
  by_cases hb0:b=0
  case neg=>
    have d1:decide ((b:Int)=0)=false:=by rw[decide_eq_false_iff_not];omega
    have w1:(a:Int).tmod (b:Int)=((a % b:Nat):Int):=(Int.ofNat_tmod a b).symm
    have n1:((b:Int)=0)=False:=eq_false (fun h=>by omega)
    have hlt:=Nat.mod_lt a (show 0<b by omega)
    have hf:=A4 @smlSt.eq_1 d1 w1 n1;refine sF ?_;(repeat' ((first|((with_reducible refine isE 12 (by decide) ?_);refine dR (rP 0 6 [] []) (rgL 12 4 []) [5] ?_)|refine oB ?_|fail)<;>refine sF ?_<;>try with_reducible exact tT))<;>try clear hf
    exact ⟨a % b,smlSt M num den b (a % b),by omega,le_sub ⟨rfl,rfl,rfl,rfl,rfl,trivial⟩ ⟨rfl,trivial⟩ rfl rfl rfl (keepLt0 _),b,a % b,rfl,by rw[←hg,Nat.gcd_comm b,←Nat.gcd_rec,Nat.gcd_comm],hb,by omega,rfl⟩
  subst hb0
  rw[Nat.gcd_zero_right]at hg
  subst hg
  have hg0:0<Nat.gcd num den:=Nat.gcd_pos_of_pos_right _ hd
  have hq0:0<den / Nat.gcd num den:=Nat.div_pos (Nat.gcd_le_right num hd) hg0
  have hq1:den / Nat.gcd num den≤2147483648:=Nat.le_trans (Nat.div_le_self _ _) hd2
  have d1:decide (((0:Nat):Int)=0)=true:=by decide
  have n1:(((Nat.gcd num den:Nat):Int)=0)=False:=eq_false (fun h=>by omega)
  have w1:IntKind.i64.wrap ((den:Int).tdiv ((Nat.gcd num den:Nat):Int))=((den / Nat.gcd num den:Nat):Int):=by rw[←Int.ofNat_tdiv];exact wrap_id (by omega) (by omega)
  have w2:IntKind.u32.wrap ((den / Nat.gcd num den:Nat):Int)=((den / Nat.gcd num den:Nat):Int):=wrap32_id (by omega)
  by_cases h0:num=0
  · subst h0
    have d2:decide ((0:Int)<((0:Nat):Int))=false:=by decide
    rw[Nat.zero_div,ofN_zero]at hK
    have hf:=A6 @smlSt.eq_1 d1 d2 n1 w1 w2;refine sF ?_;(repeat' ((first|((with_reducible refine isE 12 (by decide) ?_);refine dR (rP 0 6 [] []) (rgL 12 4 []) [5] ?_)|refine oB ?_|fail)<;>refine sF ?_<;>try with_reducible exact tT))<;>try clear hf
    exact .inl (FrzF.agg1 _ [u32V (den / Nat.gcd 0 den)] rfl rfl fun u M1 a1 a2 a3=>hK _ _ _ a1 (isL_nil _ _ _) (by rw[ofN_u32 hq0 (by omega)];exact a2) (freshS_nil _ _) a3)
  · have hp0:0<num / Nat.gcd num den:=Nat.div_pos (Nat.gcd_le_left den (by omega)) hg0
    have hp1:num / Nat.gcd num den≤2147483648:=Nat.le_trans (Nat.div_le_self _ _) hn
    have d2:decide ((0:Int)<(num:Int))=true:=by rw[decide_eq_true_eq];omega
    have w3:IntKind.i64.wrap ((num:Int).tdiv ((Nat.gcd num den:Nat):Int))=((num / Nat.gcd num den:Nat):Int):=by rw[←Int.ofNat_tdiv];exact wrap_id (by omega) (by omega)
    have w4:IntKind.u32.wrap ((num / Nat.gcd num den:Nat):Int)=((num / Nat.gcd num den:Nat):Int):=wrap32_id (by omega)
    have hf:=A8 @smlSt.eq_1 d1 d2 n1 w1 w2 w3 w4;refine sF ?_;(repeat' ((first|((with_reducible refine isE 12 (by decide) ?_);refine dR (rP 0 6 [] []) (rgL 12 4 []) [5] ?_)|refine oB ?_|fail)<;>refine sF ?_<;>try with_reducible exact tT))<;>try clear hf
    exact FrzF.agg2 [u32V (num / Nat.gcd num den)] [u32V (den / Nat.gcd num den)] rfl rfl rfl rfl (by decide) fun u u' M1 a1 a2 a3 a4 a5=>hK _ _ _ a1 (by rw[ofN_u32 hp0 (by omega)];exact a2) (by rw[ofN_u32 hq0 (by omega)];exact a3) a4 a5
end
theorem ofF_11:ofF 1 1=(0,1,1):=by decide +kernel
theorem ofF_01:ofF 0 1=(0,0,1):=by decide +kernel
def FrK(M:Mem)(K:AV→Hp→Mem→Prop)(r:Nat×Nat):Prop:=∀w1 w2 M',Mem.le M M'→IsF M' w1 w2 (ofN r.1) (ofN r.2)→FreshS M w1→FreshS M w2→K (.ext (.agg #[w1,w2])) [] M'
theorem isF_ofN{M:Mem}{w1 w2:Value}{n d:Nat}(h1:IsL M u32V w1 (ofN n))(h2:IsL M u32V w2 (ofN d))(b:(ofN n).length≤128∧(ofN d).length≤128):IsF M w1 w2 (ofN n) (ofN d):=⟨h1,h2,okN_ofN _,okN_ofN _,by omega,by omega⟩
theorem ofN1_len:(ofN 1).length≤128:=by rw[ofN_1];decide
theorem ofN0_len:(ofN 0).length≤128:=by rw[ofN_zero];decide
def othF(a b:List Nat):Nat×Nat:=(subF (ofN 1) (ofN 1) a b).2
theorem subF_len'(a b c d:List Nat):(ofN (subF a b c d).2.1).length≤128∧(ofN (subF a b c d).2.2).length≤128:=by
  unfold subF
  split
  · split
    · exact ⟨ofN0_len,ofN0_len⟩
    · exact exF_len' _ _
  · exact ⟨ofN0_len,ofN0_len⟩
theorem mulF_len'(a b c d:List Nat):(ofN (mulF a b c d).2.1).length≤128∧(ofN (mulF a b c d).2.2).length≤128:=by
  unfold mulF
  split
  · exact exF_len' _ _
  · exact ⟨ofN0_len,ofN0_len⟩
theorem divF_len'(a b c d:List Nat):(ofN (divF a b c d).2.1).length≤128∧(ofN (divF a b c d).2.2).length≤128:=by
  unfold divF
  split
  · split
    · exact ⟨ofN0_len,ofN0_len⟩
    · exact exF_len' _ _
  · exact ⟨ofN0_len,ofN0_len⟩
def chaF(a b:List Nat):Bool:=chkF a b&&(decide (cmpF a b (ofN 1) (ofN 1)≤0)&&decide (cmpR b (ofN 1000)≤0))
def innF(a b:List Nat):Bool:=chaF a b&&(decide (0<a.length)&&decide (cmpF a b (ofN 1) (ofN 1)<0))
def noiF(a b c d:List Nat):Bool:=chaF a b&&(chaF c d&&(decide (0<a.length)&&(decide (cmpF a b c d<0)&&decide (cmpF c d (ofN 1) (ofN 1)<0))))
section
variable {M:Mem}{K:AV→Hp→Mem→Prop}{u1 u2 v1 v2:Value}{l1 l2 k1 k2:List Nat}
theorem lenI{a:List Nat}:decide ((0:Int)<(a.length:Int))=decide (0<a.length):=by
  by_cases h:0<a.length
  · rw[decide_eq_true h,decide_eq_true (by omega)]
  · rw[decide_eq_false h,decide_eq_false (by omega)]
theorem pwhole_ok(hK:FrK M K (1,1)):CallS Tryz.prog 119 [.ext (.int .i64 1)] [] M [] K:=by
  refine inlS (cs:=[]) Tryz.mixed Tryz.func119 rfl (by kernel_rfl) 0 rfl rfl ?_
  simp only[Tryz.f119]
  refine sU ?_;(repeat' ((first|((with_reducible refine yN ?_);refine kS 100 (fof_ok 1 1 (by omega) (by omega) (by omega) (by omega) (fun w1 w2 M1 a1 a2 a3 a4 a5=>Stop.mk ?_)))|refine oB ?_|fail)<;>refine sU ?_<;>try with_reducible exact tT))
  rw[ofF_11]at a2 a3
  have hk:=hK w1 w2 M1 a1 (isF_ofN a2 a3 ⟨ofN1_len,ofN1_len⟩) a4 a5
  have b2:=a2.one
  have b3:=a3.one
  refine wG (A2 b2 b3) ?_
  exact hk
theorem nwhole_ok(hK:FrK M K (1,1)):CallS Tryz.prog 127 [.ext (.int .i64 1)] [] M [] K:=by
  refine inlS (cs:=[]) Tryz.mixed Tryz.func127 rfl (by kernel_rfl) 0 rfl rfl ?_
  simp only[Tryz.f127]
  refine sU ?_;(repeat' ((first|((with_reducible refine yN ?_);refine kS 100 (fof_ok 1 1 (by omega) (by omega) (by omega) (by omega) (fun w1 w2 M1 a1 a2 a3 a4 a5=>Stop.mk ?_)))|refine oB ?_|fail)<;>refine sU ?_<;>try with_reducible exact tT))
  rw[ofF_11]at a2 a3
  have hk:=hK w1 w2 M1 a1 (isF_ofN a2 a3 ⟨ofN1_len,ofN1_len⟩) a4 a5
  have b2:=a2.one
  have b3:=a3.one
  refine wG (A2 b2 b3) ?_
  exact hk
theorem rOf22_ok(n:Nat)(hn:n=0∨n=1)(hK:FrK M K (n,1)):CallS Tryz.prog 71 [.ext (.int .i64 (n:Int)),.ext (.int .i64 1)] [] M [] K:=by
  refine inlS (cs:=[]) Tryz.mixed Tryz.func71 rfl (by kernel_rfl) 0 rfl rfl ?_
  simp only[Tryz.f71]
  have hf:ofF (n:Int) 1=(0,n,1):=by rcases hn with rfl|rfl;exact ofF_01;exact ofF_11
  have hl:(ofN n).length≤128:=by rcases hn with rfl|rfl;exact ofN0_len;exact ofN1_len
  refine sU ?_;(repeat' ((first|((with_reducible refine yN ?_);refine kS 110 (rfof_ok n 1 (by omega) (by omega) (by omega) (by omega) (fun w1 w2 M1 a1 a2 a3 a4 a5=>Stop.mk ?_)))|refine oB ?_|fail)<;>refine sU ?_<;>try with_reducible exact tT))
  rw[hf]at a2 a3
  have hk:=hK w1 w2 M1 a1 (isF_ofN a2 a3 ⟨hl,ofN1_len⟩) a4 a5
  have b2:=a2.one
  have b3:=a3.one
  refine wG (A2 b2 b3) ?_
  exact hk
theorem rone_ok(hK:FrK M K (1,1)):CallS Tryz.prog 86 [] [] M [] K:=by
  refine inlS (cs:=[]) Tryz.mixed Tryz.func86 rfl (by kernel_rfl) 0 rfl rfl ?_
  simp only[Tryz.f86]
  refine sU ?_;(repeat' ((first|((with_reducible refine yN ?_);refine kS 71 (rOf22_ok 1 (by omega) (fun w1 w2 M1 a1 a2 a4 a5=>Stop.mk ?_)))|refine oB ?_|fail)<;>refine sU ?_<;>try with_reducible exact tT))
  have hk:=hK w1 w2 M1 a1 a2 a4 a5
  have b2:=a2.n.one
  have b3:=a2.d.one
  refine wG (A2 b2 b3) ?_
  exact hk
theorem rzero_ok(hK:FrK M K (0,1)):CallS Tryz.prog 92 [] [] M [] K:=by
  refine inlS (cs:=[]) Tryz.mixed Tryz.func92 rfl (by kernel_rfl) 0 rfl rfl ?_
  simp only[Tryz.f92]
  refine sU ?_;(repeat' ((first|((with_reducible refine yN ?_);refine kS 71 (rOf22_ok 0 (by omega) (fun w1 w2 M1 a1 a2 a4 a5=>Stop.mk ?_)))|refine oB ?_|fail)<;>refine sU ?_<;>try with_reducible exact tT))
  have hk:=hK w1 w2 M1 a1 a2 a4 a5
  have b2:=a2.n.one
  have b3:=a2.d.one
  refine wG (A2 b2 b3) ?_
  exact hk
theorem other_ok(hu:IsF M u1 u2 l1 l2)(hK:FrK M K (othF l1 l2)):CallS Tryz.prog 123 [.ext (.agg #[u1,u2])] [] M [] K:=by
  refine inlS (cs:=[]) Tryz.mixed Tryz.func123 rfl (by kernel_rfl) 0 rfl rfl ?_
  simp only[Tryz.f123]
  have h1:=hu.n.one
  have h2:=hu.d.one
  have hf:=A2 h1 h2;refine sF ?_;(repeat' ((first|((with_reducible refine yM ?_);refine kS 119 (pwhole_ok (fun w1 w2 M1 a1 a2 a4 a5=>Stop.mk ?_)))|((with_reducible refine isE 6 (by decide) ?_);refine dR ((1,[]) :: (6,[1]) :: (0,[1]) :: (rP 2 4 [] [(7,[]),(8,[])])) (3 :: (rgL 5 6 [])) [] ?_)|refine oB ?_|fail)<;>refine sF ?_<;>try with_reducible exact tT))<;>try clear hf
  have a1:Mem.le M M1:=a1
  have b2:=a2.n.one
  have b3:=a2.d.one
  have hf:=A4 h1 h2 b2 b3;refine wH ?_;refine kM 41 (fsub_ok a2 (hu.le a1) (fun w3 w4 M2 c1 c2 c3 c4 c5=>sG ?_));all_goals clear hf
  have c1:Mem.le M1 M2:=c1
  have hk:=hK w3 w4 M2 (a1.trans c1) (isF_ofN c2 c3 (subF_len' _ _ _ _)) (c4.le a1) (c5.le a1)
  have e2:=c2.one
  have e3:=c3.one
  refine wG (A4 h1 h2 e2 e3) ?_
  exact hk
theorem rRest_ok(hu:IsF M u1 u2 l1 l2)(hK:FrK M K (othF l1 l2)):CallS Tryz.prog 87 [.ext (.agg #[u1,u2])] [] M [] K:=by
  refine inlS (cs:=[]) Tryz.mixed Tryz.func87 rfl (by kernel_rfl) 0 rfl rfl ?_
  simp only[Tryz.f87]
  have h1:=hu.n.one
  have h2:=hu.d.one
  have hf:=A2 h1 h2;refine sF ?_;(repeat' ((first|((with_reducible refine yM ?_);refine kS 71 (rOf22_ok 1 (by omega) (fun w1 w2 M1 a1 a2 a4 a5=>Stop.mk ?_)))|((with_reducible refine isE 6 (by decide) ?_);refine dR ((1,[]) :: (6,[1]) :: (0,[1]) :: (rP 2 4 [] [(7,[]),(8,[])])) (3 :: (rgL 5 6 [])) [] ?_)|refine oB ?_|fail)<;>refine sF ?_<;>try with_reducible exact tT))<;>try clear hf
  have a1:Mem.le M M1:=a1
  have b2:=a2.n.one
  have b3:=a2.d.one
  have hf:=A4 h1 h2 b2 b3;refine wH ?_;refine kM 130 (rfsub_ok a2 (hu.le a1) (fun w3 w4 M2 c1 c2 c3 c4 c5=>sG ?_));all_goals clear hf
  have c1:Mem.le M1 M2:=c1
  have hk:=hK w3 w4 M2 (a1.trans c1) (isF_ofN c2 c3 (subF_len' _ _ _ _)) (c4.le a1) (c5.le a1)
  have e2:=c2.one
  have e3:=c3.one
  refine wG (A4 h1 h2 e2 e3) ?_
  exact hk
theorem cha_ok(hu:IsF M u1 u2 l1 l2)(hK:∀M',Mem.le M M'→K (.ext (.bool (chaF l1 l2))) [] M'):CallS Tryz.prog 126 [.ext (.agg #[u1,u2])] [] M [] K:=by
  refine inlS (cs:=[]) Tryz.mixed Tryz.func126 rfl (by kernel_rfl) 0 rfl rfl ?_
  simp only[Tryz.f126]
  have h1:=hu.n.one
  have h2:=hu.d.one
  unfold chaF at hK
  have hf:=A2 h1 h2;refine sF ?_;(repeat' ((first|((with_reducible refine yM ?_);refine kS 55 (fcheck_ok hu.n hu.d hu.on hu.od hu.bn hu.bd (fun M1 m1=>Stop.mk ?_)))|((with_reducible refine isE 3 (by decide) ?_);refine dR (rP 0 4 [] ((4,[3]) :: (rP 5 6 [] ((11,[10]) :: (rP 12 4 [] []))))) (6 :: 7 :: (rgL 12 3 [])) [] ?_)|refine oB ?_|fail)<;>refine sF ?_<;>try with_reducible exact tT))<;>try clear hf
  have m1:Mem.le M M1:=m1
  cases hc:chkF l1 l2 with
  | false=>
    rw[hc]at hK
    have hk:=hK M1 m1
    refine wG (A3 h1 h2 hc) ?_
    exact hk
  | true=>
    rw[hc]at hK
    have hu1:=hu.le m1
    have hf:=A3 h1 h2 hc;refine wH ?_;refine kM 127 (nwhole_ok (fun w1 w2 M2 a1 a2 _ _=>sG ?_));all_goals clear hf
    have a1:Mem.le M1 M2:=a1
    have b2:=a2.n.one
    have b3:=a2.d.one
    have hf:=A5 h1 h2 hc b2 b3;refine wH ?_;refine kM 26 (fcmp_ok (hu1.le a1) a2 (fun M3 m3=>sG ?_));all_goals clear hf
    have m3:Mem.le M2 M3:=m3
    have hu3:=(hu1.le a1).le m3
    cases hc1:decide (cmpF l1 l2 (ofN 1) (ofN 1)≤0) with
    | false=>
      rw[hc1]at hK
      have hk:=hK M3 (m1.trans (a1.trans m3))
      refine wG (A6 h1 h2 hc b2 b3 hc1) ?_
      exact hk
    | true=>
      rw[hc1]at hK
      have hf:=A6 h1 h2 hc b2 b3 hc1;refine wH ?_;refine kM 104 (natOf_ok 1000 (by omega) (fun w M4 c1 c2 _=>sG ?_));all_goals clear hf
      have c1:Mem.le M3 M4:=c1
      have b4:=c2.one
      have hl:(ofN 1000).length≤1:=ofN_len_le (by rw[show wN 1=4294967296 from rfl];omega)
      have hk:=hK M4 (m1.trans (a1.trans (m3.trans c1)))
      have hu4:=hu3.le c1
      refine Stop.go ?_
      have hf:=A7 h1 h2 hc b2 b3 b4 hc1;refine sF ?_;(repeat' ((first|((with_reducible refine yM ?_);refine kS 108 (natCmp_ok hu4.d c2 hu4.od (okN_ofN _) hu4.bd (by omega) ?_))|refine oB ?_|fail)<;>refine sF ?_<;>try with_reducible exact tT))<;>try clear hf
      exact hk
theorem rcha_ok(hu:IsF M u1 u2 l1 l2)(hK:∀M',Mem.le M M'→K (.ext (.bool (chaF l1 l2))) [] M'):CallS Tryz.prog 90 [.ext (.agg #[u1,u2])] [] M [] K:=by
  refine inlS (cs:=[]) Tryz.mixed Tryz.func90 rfl (by kernel_rfl) 0 rfl rfl ?_
  simp only[Tryz.f90]
  have h1:=hu.n.one
  have h2:=hu.d.one
  unfold chaF at hK
  have hf:=A2 h1 h2;refine sF ?_;(repeat' ((first|((with_reducible refine yM ?_);refine kS 131 (rfcheck_ok hu.n hu.d hu.on hu.od hu.bn hu.bd (fun M1 m1=>Stop.mk ?_)))|((with_reducible refine isE 3 (by decide) ?_);refine dR (rP 0 4 [] ((4,[3]) :: (rP 5 6 [] ((11,[10]) :: (rP 12 4 [] []))))) (6 :: 7 :: (rgL 12 3 [])) [] ?_)|refine oB ?_|fail)<;>refine sF ?_<;>try with_reducible exact tT))<;>try clear hf
  have m1:Mem.le M M1:=m1
  cases hc:chkF l1 l2 with
  | false=>
    rw[hc]at hK
    have hk:=hK M1 m1
    refine wG (A3 h1 h2 hc) ?_
    exact hk
  | true=>
    rw[hc]at hK
    have hu1:=hu.le m1
    have hf:=A3 h1 h2 hc;refine wH ?_;refine kM 71 (rOf22_ok 1 (by omega) (fun w1 w2 M2 a1 a2 _ _=>sG ?_));all_goals clear hf
    have a1:Mem.le M1 M2:=a1
    have b2:=a2.n.one
    have b3:=a2.d.one
    have hf:=A5 h1 h2 hc b2 b3;refine wH ?_;refine kM 91 (rfcmp_ok (hu1.le a1) a2 (fun M3 m3=>sG ?_));all_goals clear hf
    have m3:Mem.le M2 M3:=m3
    have hu3:=(hu1.le a1).le m3
    cases hc1:decide (cmpF l1 l2 (ofN 1) (ofN 1)≤0) with
    | false=>
      rw[hc1]at hK
      have hk:=hK M3 (m1.trans (a1.trans m3))
      refine wG (A6 h1 h2 hc b2 b3 hc1) ?_
      exact hk
    | true=>
      rw[hc1]at hK
      have hf:=A6 h1 h2 hc b2 b3 hc1;refine wH ?_;refine kM 138 (rof_ok 1000 (by omega) (fun w M4 c1 c2 _=>sG ?_));all_goals clear hf
      have c1:Mem.le M3 M4:=c1
      have b4:=c2.one
      have hl:(ofN 1000).length≤1:=ofN_len_le (by rw[show wN 1=4294967296 from rfl];omega)
      have hk:=hK M4 (m1.trans (a1.trans (m3.trans c1)))
      have hu4:=hu3.le c1
      refine Stop.go ?_
      have hf:=A7 h1 h2 hc b2 b3 b4 hc1;refine sF ?_;(repeat' ((first|((with_reducible refine yM ?_);refine kS 137 (rCmp_ok hu4.d c2 hu4.od (okN_ofN _) hu4.bd (by omega) ?_))|refine oB ?_|fail)<;>refine sF ?_<;>try with_reducible exact tT))<;>try clear hf
      exact hk
theorem inner_ok(hu:IsF M u1 u2 l1 l2)(hK:∀M',Mem.le M M'→K (.ext (.bool (innF l1 l2))) [] M'):CallS Tryz.prog 122 [.ext (.agg #[u1,u2])] [] M [] K:=by
  refine inlS (cs:=[]) Tryz.mixed Tryz.func122 rfl (by kernel_rfl) 0 rfl rfl ?_
  simp only[Tryz.f122]
  have h1:=hu.n.one
  have h2:=hu.d.one
  have h3:=hu.n.len
  have h4:=hu.n.sl
  unfold innF at hK
  have hf:=A2 h1 h2;refine sF ?_;(repeat' ((first|((with_reducible refine yM ?_);refine kS 126 (cha_ok hu (fun M1 m1=>Stop.mk ?_)))|((with_reducible refine isE 3 (by decide) ?_);refine dR (rP 0 10 [] ((10,[9]) :: (rP 11 4 [] []))) [12,13] [] ?_)|refine oB ?_|fail)<;>refine sF ?_<;>try with_reducible exact tT))<;>try clear hf
  have m1:Mem.le M M1:=m1
  cases hc:chaF l1 l2 with
  | false=>
    rw[hc]at hK
    have hk:=hK M1 m1
    refine wG (A5 h1 h2 h3 h4 hc) ?_
    exact hk
  | true=>
    rw[hc]at hK
    have hu1:=hu.le m1
    rw[←lenI]at hK
    cases hc0:decide ((0:Int)<(l1.length:Int)) with
    | false=>
      rw[hc0]at hK
      have hk:=hK M1 m1
      refine wG (A6 h1 h2 h3 h4 hc hc0) ?_
      exact hk
    | true=>
      rw[hc0]at hK
      have hf:=A6 h1 h2 h3 h4 hc hc0;refine wH ?_;refine kM 119 (pwhole_ok (fun w1 w2 M2 a1 a2 _ _=>sG ?_));all_goals clear hf
      have a1:Mem.le M1 M2:=a1
      have b2:=a2.n.one
      have b3:=a2.d.one
      have hf:=A6 h1 h2 hc hc0 b2 b3;refine wH ?_;refine kM 26 (fcmp_ok (hu1.le a1) a2 (fun M3 m3=>sG ?_));all_goals clear hf
      have m3:Mem.le M2 M3:=m3
      have hk:=hK M3 (m1.trans (a1.trans m3))
      refine wG (A6 h1 h2 hc hc0 b2 b3) ?_
      exact hk
theorem cmp_zero{a b:List Nat}(ho:okN a)(h:chkF a b=true):decide ((0:Int)<cmpF a b (ofN 0) (ofN 1))=decide (0<a.length)∧decide (cmpF (ofN 0) (ofN 1) a b<0)=decide (0<a.length):=by
  have h2:chkF (ofN 0) (ofN 1)=true:=by decide +kernel
  have h3:=h
  unfold chkF at h3
  simp only[Bool.and_eq_true,Bool.not_eq_true',decide_eq_false_iff_not]at h3
  obtain ⟨⟨⟨c1,c2⟩,c3⟩,_⟩:=h3
  have e0:valN (ofN 0)=0:=valN_ofN 0
  have e1:valN (ofN 1)=1:=valN_ofN 1
  unfold cmpF
  rw[h,h2]
  simp only[Bool.and_self,if_true,e0,e1,Nat.mul_one,Nat.zero_mul,Nat.one_mul]
  have hz:a.length=0↔valN a=0:=by
    constructor
    · intro h;rw[List.eq_nil_of_length_eq_zero h];rfl
    · intro h0
      have ha:a=ofN (valN a):=(chkN_ok ho c1).1
      rw[ha,h0,ofN_zero];rfl
  unfold cmpN
  by_cases h0:valN a=0
  · have:=hz.2 h0
    rw[h0]
    constructor<;>simp[this]
  · have h5:¬a.length=0:=fun h=>h0 (hz.1 h)
    constructor
    · rw[decide_eq_true (show 0<a.length by omega)]
      (repeat' split)<;>first|(exfalso;omega)|simp
    · rw[decide_eq_true (show 0<a.length by omega)]
      (repeat' split)<;>first|(exfalso;omega)|simp
theorem rinner_ok(hu:IsF M u1 u2 l1 l2)(hK:∀M',Mem.le M M'→K (.ext (.bool (innF l1 l2))) [] M'):CallS Tryz.prog 47 [.ext (.agg #[u1,u2])] [] M [] K:=by
  refine inlS (cs:=[]) Tryz.mixed Tryz.func47 rfl (by kernel_rfl) 0 rfl rfl ?_
  simp only[Tryz.f47]
  have h1:=hu.n.one
  have h2:=hu.d.one
  have h3:=hu.n.len
  have h4:=hu.n.sl
  have hf:=A4 h1 h2 h3 h4;refine sF ?_;(repeat' ((first|((with_reducible refine yM ?_);refine kS 90 (rcha_ok hu (fun M1 m1=>Stop.mk ?_)))|((with_reducible refine isE 3 (by decide) ?_);refine dR (rP 0 4 [] ((4,[3]) :: (rP 5 5 [] ((10,[9]) :: (rP 11 4 [] []))))) [6,7,12,13] [] ?_)|refine oB ?_|fail)<;>refine sF ?_<;>try with_reducible exact tT))<;>try clear hf
  have m1:Mem.le M M1:=m1
  have hu1:=hu.le m1
  rw[innF]at hK
  cases c1:chaF l1 l2 with
  | false=>
    rw[c1]at hK
    have hk:=hK M1 (m1)
    refine wG (A5 h1 h2 h3 h4 c1) ?_
    exact hk
  | true=>
    rw[c1]at hK
    have hf:=A5 h1 h2 h3 h4 c1;refine wH ?_;refine kM 92 (rzero_ok (fun w2_1 w2_2 M2 m2 a2 _ _=>sG ?_));all_goals clear hf
    have m2:Mem.le M1 M2:=m2
    have p2:=a2.n.one
    have q2:=a2.d.one
    have hu2:=hu1.le m2
    have hf:=A7 h1 h2 h3 h4 c1 p2 q2;refine wH ?_;refine kM 91 (rfcmp_ok hu2 (a2.le (Mem.le.refl _)) (fun M3 m3=>sG ?_));all_goals clear hf
    have m3:Mem.le M2 M3:=m3
    have hu3:=hu2.le m3
    have hch:chkF l1 l2=true:=by unfold chaF at c1;simp only[Bool.and_eq_true]at c1;exact c1.1
    rw[←(cmp_zero hu.on hch).1]at hK
    cases c3:decide ((0:Int)<cmpF l1 l2 (ofN 0) (ofN 1)) with
    | false=>
      rw[c3]at hK
      have hk:=hK M3 (((m1).trans m2).trans m3)
      refine wG (A8 h1 h2 h3 h4 c1 p2 q2 c3) ?_
      exact hk
    | true=>
      rw[c3]at hK
      have hf:=A8 h1 h2 h3 h4 c1 p2 q2 c3;refine wH ?_;refine kM 86 (rone_ok (fun w4_1 w4_2 M4 m4 a4 _ _=>sG ?_));all_goals clear hf
      have m4:Mem.le M3 M4:=m4
      have p4:=a4.n.one
      have q4:=a4.d.one
      have hu4:=hu3.le m4
      have hf:=A10 h1 h2 h3 h4 c1 p2 q2 c3 p4 q4;refine wH ?_;refine kM 91 (rfcmp_ok hu4 a4 (fun M5 m5=>sG ?_));all_goals clear hf
      have m5:Mem.le M4 M5:=m5
      have hu5:=hu4.le m5
      have hk:=hK M5 (((((m1).trans m2).trans m3).trans m4).trans m5)
      refine wG (A10 h1 h2 h3 h4 c1 p2 q2 c3 p4 q4) ?_
      exact hk
theorem noi_ok(hu:IsF M u1 u2 l1 l2)(hv:IsF M v1 v2 k1 k2)(hK:∀M',Mem.le M M'→K (.ext (.bool (noiF l1 l2 k1 k2))) [] M'):CallS Tryz.prog 82 [.ext (.agg #[u1,u2,v1,v2])] [] M [] K:=by
  refine inlS (cs:=[]) Tryz.mixed Tryz.func82 rfl (by kernel_rfl) 0 rfl rfl ?_
  simp only[Tryz.f82]
  have h1:=hu.n.one
  have h2:=hu.d.one
  have h3:=hu.n.len
  have h4:=hu.n.sl
  have g1:=hv.n.one
  have g2:=hv.d.one
  have hf:=A6 h1 h2 g1 g2 h3 h4;refine sF ?_;(repeat' ((first|((with_reducible refine yM ?_);refine kS 126 (cha_ok hu (fun M1 m1=>Stop.mk ?_)))|((with_reducible refine isE 3 (by decide) ?_);refine dR (rP 0 18 [] ((18,[17]) :: (19,[17]) :: (rP 20 6 [] ((26,[25]) :: (rP 27 4 [] []))))) (rgL 19 4 (rgL 27 3 [])) [] ?_)|refine oB ?_|fail)<;>refine sF ?_<;>try with_reducible exact tT))<;>try clear hf
  have m1:Mem.le M M1:=m1
  have hu1:=hu.le m1
  have hv1:=hv.le m1
  rw[noiF]at hK
  cases c1:chaF l1 l2 with
  | false=>
    rw[c1]at hK
    have hk:=hK M1 (m1)
    refine wG (A7 h1 h2 g1 g2 h3 h4 c1) ?_
    exact hk
  | true=>
    rw[c1]at hK
    have hf:=A7 h1 h2 g1 g2 h3 h4 c1;refine wH ?_;refine kM 126 (cha_ok hv1 (fun M2 m2=>sG ?_));all_goals clear hf
    have m2:Mem.le M1 M2:=m2
    have hu2:=hu1.le m2
    have hv2:=hv1.le m2
    cases c2:chaF k1 k2 with
    | false=>
      rw[c2]at hK
      have hk:=hK M2 ((m1).trans m2)
      refine wG (A8 h1 h2 g1 g2 h3 h4 c1 c2) ?_
      exact hk
    | true=>
      rw[c2]at hK
      rw[←lenI]at hK
      cases c2:decide ((0:Int)<(l1.length:Int)) with
      | false=>
        rw[c2]at hK
        have hk:=hK M2 ((m1).trans m2)
        refine wG (A9 h1 h2 g1 g2 h3 h4 c1 c2 c2) ?_
        exact hk
      | true=>
        rw[c2]at hK
        have hf:=A9 h1 h2 g1 g2 h3 h4 c1 c2 c2;refine wH ?_;refine kM 26 (fcmp_ok hu2 hv2 (fun M3 m3=>sG ?_));all_goals clear hf
        have m3:Mem.le M2 M3:=m3
        have hu3:=hu2.le m3
        have hv3:=hv2.le m3
        cases c3:decide (cmpF l1 l2 k1 k2<0) with
        | false=>
          rw[c3]at hK
          have hk:=hK M3 (((m1).trans m2).trans m3)
          refine wG (A10 h1 h2 g1 g2 h3 h4 c1 c2 c2 c3) ?_
          exact hk
        | true=>
          rw[c3]at hK
          have hf:=A10 h1 h2 g1 g2 h3 h4 c1 c2 c2 c3;refine wH ?_;refine kM 127 (nwhole_ok (fun w4_1 w4_2 M4 m4 a4 _ _=>sG ?_));all_goals clear hf
          have m4:Mem.le M3 M4:=m4
          have p4:=a4.n.one
          have q4:=a4.d.one
          have hu4:=hu3.le m4
          have hv4:=hv3.le m4
          have hf:=A12 h1 h2 g1 g2 h3 h4 c1 c2 c2 c3 p4 q4;refine wH ?_;refine kM 26 (fcmp_ok hv4 a4 (fun M5 m5=>sG ?_));all_goals clear hf
          have m5:Mem.le M4 M5:=m5
          have hu5:=hu4.le m5
          have hv5:=hv4.le m5
          have hk:=hK M5 (((((m1).trans m2).trans m3).trans m4).trans m5)
          refine wG (A12 h1 h2 g1 g2 h3 h4 c1 c2 c2 c3 p4 q4) ?_
          exact hk
theorem rnoi_ok(hu:IsF M u1 u2 l1 l2)(hv:IsF M v1 v2 k1 k2)(hK:∀M',Mem.le M M'→K (.ext (.bool (noiF l1 l2 k1 k2))) [] M'):CallS Tryz.prog 46 [.ext (.agg #[u1,u2,v1,v2])] [] M [] K:=by
  refine inlS (cs:=[]) Tryz.mixed Tryz.func46 rfl (by kernel_rfl) 0 rfl rfl ?_
  simp only[Tryz.f46]
  have h1:=hu.n.one
  have h2:=hu.d.one
  have h3:=hu.n.len
  have h4:=hu.n.sl
  have g1:=hv.n.one
  have g2:=hv.d.one
  have hf:=A6 h1 h2 g1 g2 h3 h4;refine sF ?_;(repeat' ((first|((with_reducible refine yM ?_);refine kS 90 (rcha_ok hu (fun M1 m1=>Stop.mk ?_)))|((with_reducible refine isE 3 (by decide) ?_);refine dR (rP 0 9 [] ((10,[]) :: (11,[]) :: (9,[11]) :: (rP 12 6 [] ((18,[17]) :: (19,[17]) :: (rP 20 6 [] ((26,[25]) :: (rP 27 4 [] []))))))) (rgL 12 3 (rgL 19 4 (rgL 27 3 []))) [] ?_)|refine oB ?_|fail)<;>refine sF ?_<;>try with_reducible exact tT))<;>try clear hf
  have m1:Mem.le M M1:=m1
  have hu1:=hu.le m1
  have hv1:=hv.le m1
  rw[noiF]at hK
  cases c1:chaF l1 l2 with
  | false=>
    rw[c1]at hK
    have hk:=hK M1 (m1)
    refine wG (A7 h1 h2 g1 g2 h3 h4 c1) ?_
    exact hk
  | true=>
    rw[c1]at hK
    have hf:=A7 h1 h2 g1 g2 h3 h4 c1;refine wH ?_;refine kM 90 (rcha_ok hv1 (fun M2 m2=>sG ?_));all_goals clear hf
    have m2:Mem.le M1 M2:=m2
    have hu2:=hu1.le m2
    have hv2:=hv1.le m2
    cases c2:chaF k1 k2 with
    | false=>
      rw[c2]at hK
      have hk:=hK M2 ((m1).trans m2)
      refine wG (A8 h1 h2 g1 g2 h3 h4 c1 c2) ?_
      exact hk
    | true=>
      rw[c2]at hK
      have hf:=A8 h1 h2 g1 g2 h3 h4 c1 c2;refine wH ?_;refine kM 71 (rOf22_ok 0 (by omega) (fun w3_1 w3_2 M3 m3 a3 _ _=>sG ?_));all_goals clear hf
      have m3:Mem.le M2 M3:=m3
      have p3:=a3.n.one
      have q3:=a3.d.one
      have hu3:=hu2.le m3
      have hv3:=hv2.le m3
      have hf:=A10 h1 h2 g1 g2 h3 h4 c1 c2 p3 q3;refine wH ?_;refine kM 91 (rfcmp_ok a3 hu3 (fun M4 m4=>sG ?_));all_goals clear hf
      have m4:Mem.le M3 M4:=m4
      have hu4:=hu3.le m4
      have hv4:=hv3.le m4
      have hch:chkF l1 l2=true:=by unfold chaF at c1;simp only[Bool.and_eq_true]at c1;exact c1.1
      rw[←(cmp_zero hu.on hch).2]at hK
      cases c4:decide (cmpF (ofN 0) (ofN 1) l1 l2<0) with
      | false=>
        rw[c4]at hK
        have hk:=hK M4 ((((m1).trans m2).trans m3).trans m4)
        refine wG (A11 h1 h2 g1 g2 h3 h4 c1 c2 p3 q3 c4) ?_
        exact hk
      | true=>
        rw[c4]at hK
        have hf:=A11 h1 h2 g1 g2 h3 h4 c1 c2 p3 q3 c4;refine wH ?_;refine kM 91 (rfcmp_ok hu4 hv4 (fun M5 m5=>sG ?_));all_goals clear hf
        have m5:Mem.le M4 M5:=m5
        have hu5:=hu4.le m5
        have hv5:=hv4.le m5
        cases c5:decide (cmpF l1 l2 k1 k2<0) with
        | false=>
          rw[c5]at hK
          have hk:=hK M5 (((((m1).trans m2).trans m3).trans m4).trans m5)
          refine wG (A12 h1 h2 g1 g2 h3 h4 c1 c2 p3 q3 c4 c5) ?_
          exact hk
        | true=>
          rw[c5]at hK
          have hf:=A12 h1 h2 g1 g2 h3 h4 c1 c2 p3 q3 c4 c5;refine wH ?_;refine kM 71 (rOf22_ok 1 (by omega) (fun w6_1 w6_2 M6 m6 a6 _ _=>sG ?_));all_goals clear hf
          have m6:Mem.le M5 M6:=m6
          have p6:=a6.n.one
          have q6:=a6.d.one
          have hu6:=hu5.le m6
          have hv6:=hv5.le m6
          have hf:=A12 h1 h2 g1 g2 h3 h4 c1 c2 p3 q3 c4 (A3 c5 p6 q6);refine wH ?_;refine kM 91 (rfcmp_ok hv6 a6 (fun M7 m7=>sG ?_));all_goals clear hf
          have m7:Mem.le M6 M7:=m7
          have hu7:=hu6.le m7
          have hv7:=hv6.le m7
          have hk:=hK M7 (((((((m1).trans m2).trans m3).trans m4).trans m5).trans m6).trans m7)
          refine wG (A12 h1 h2 g1 g2 h3 h4 c1 c2 p3 q3 c4 (A3 c5 p6 q6)) ?_
          exact hk
end
section
variable {b:Nat}{T:TypeId}{Ls:List (List Value)}{r h:Hp}{k i n:Nat}
end
mutual
def BorI(M0 M:Mem)(H:Hp):AV→Value→Prop
  | .ext v,u=>u=v
  | .slo k off n z,u=>FreshS M0 u∧∀T (cs:List Value),lkH H k=some (T,cs.map .ext)→off+n*z≤cs.length→SlM M z u n ((cs.drop off).take (n*z))
  | .own _ _,_=>True
  | .gd _ _,_=>True
  | .gown _ _ _,_=>True
  | .ag _ _,_=>True
  | .fn _ _,_=>True
  | .bm _ _,_=>True
  | .unk,_=>True
def BorIL(M0 M:Mem)(H:Hp):List AV→List Value→Prop
  | [],us=>us=[]
  | v :: l,us=>∃u r,us=u :: r∧BorI M0 M H v u∧BorIL M0 M H l r
end
def BorO(M0 M:Mem)(H:Hp):AV→Value→Prop
  | .ext v,u=>u=v
  | .slo k off n z,u=>FreshS M0 u∧∀T cs,lkH H k=some (T,cs)→off+n*z≤cs.length→∃vs,SlM M z u n vs∧BorIL M0 M H ((cs.drop off).take (n*z)) vs
  | .own _ _,_=>True
  | .gd _ _,_=>True
  | .gown _ _ _,_=>True
  | .ag _ _,_=>True
  | .fn _ _,_=>True
  | .bm _ _,_=>True
  | .unk,_=>True
theorem slo_SlMg{ρ:Rho}{M:Mem}{w:World}{k off n z:Nat}{u:Value}{T:TypeId}{cs:List AV}(hu:(AV.slo k off n z).is ρ u)(hl:off+n*z≤cs.length)(hr:∀b,ρ k=some b→∃arr,M b.b=some (.cells arr T (0,0))∧Row ρ w T cs b arr):∃vs,SlM M z u n vs∧isL ρ ((cs.drop off).take (n*z)) vs:=by
  have hlen0:((cs.drop off).take (n*z)).length=n*z:=by rw[List.length_take,List.length_drop];omega
  rcases hu with ⟨b,cap,hb,rfl,h1,h2⟩|⟨rfl,a,ha,rfl⟩
  · obtain ⟨arr,h3,h4⟩:=hr b hb
    have hp:=h4.part hl
    have hlen:=(isL_length hp).trans hlen0
    refine ⟨_,⟨rfl,rfl,h1,hlen,?_⟩,hp⟩
    simp only[rowS]
    refine rowM_of hlen fun i v hi=>?_
    have hin:i<n*z:=by have:=(List.getElem?_eq_some_iff.1 hi).1;omega
    rw[List.getElem?_take_of_lt hin,List.getElem?_drop]at hi
    simp only[cellM,h3]
    simpa using hi
  · have h0:((cs.drop off).take (0*z))=[]:=by simp
    rw[h0]
    refine ⟨[],⟨rfl,rfl,Nat.zero_le _,by simp,?_⟩,by simp[isL]⟩
    cases a with
    | none=>rfl
    | some a=>
      obtain ⟨b,off,sp⟩:=a
      cases sp with
      | none=>simp[rowS,rowM]
      | some x=>cases ha _ rfl
section
variable {ρ:Rho}{M0 M:Mem}{H:Hp}{w:World}
theorem slo_fresh{k off n z:Nat}{u:Value}(hu:(AV.slo k off n z).is ρ u)(h:∀b,ρ k=some b→M0 b.b=none):FreshS M0 u:=by
  rcases hu with ⟨b,cap,hb,e,h5,h6⟩|⟨e,a,ha,e2⟩
  · refine .inr fun b' off n' c e'=>?_
    rw[e]at e'
    cases e'
    exact h b hb
  · refine .inl ?_
    rw[e2];rfl
def HoldH(ρ:Rho)(M0 M:Mem)(H:Hp)(w:World):Prop:=∀k T cs b,lkH H k=some (T,cs)→ρ k=some b→(∃arr,M b.b=some (.cells arr T (0,0))∧Row ρ w T cs b arr)∧M0 b.b=none
def closedH(H:Hp):Prop:=∀k T cs j,lkH H k=some (T,cs)→j∈mentL cs→(lkH H j).isSome=true
theorem borI_is(hM:HoldH ρ M0 M H w):∀(v:AV) (u:Value),(∀j∈v.ment,(lkH H j).isSome=true)→v.is ρ u→BorI M0 M H v u:=fun v u hj h=>by
  cases v with
  | ext _=>exact h
  | slo k off n z=>
    obtain ⟨x,hx⟩:=Option.isSome_iff_exists.1 (hj k (by simp[AV.ment]))
    exact ⟨slo_fresh h fun b hb=>(hM k x.1 x.2 b hx hb).2,fun T cs hk hl=>slo_SlMo h (by simpa using hl) fun b hb=>(hM k T _ b hk hb).1⟩
  | _=>simp only[BorI]
end
structure LLu (M:Mem) (U:Value) (us:List Value) (Ls:List (List Value)):Prop where
  out:SlM M 1 U Ls.length us
  len:us.length=Ls.length
  at_:∀i (h:i<Ls.length),SlM M 1 (us[i]'(by omega)) Ls[i].length Ls[i]
def LL(M:Mem)(U:Value)(Ls:List (List Value)):Prop:=∃us,LLu M U us Ls
theorem LLu.le{M M':Mem}{U:Value}{us:List Value}{Ls:List (List Value)}(h:LLu M U us Ls)(hM:Mem.le M M'):LLu M' U us Ls:=⟨h.out.le hM,h.len,fun i hi=>(h.at_ i hi).le hM⟩
theorem LL.le{M M':Mem}{U:Value}{Ls:List (List Value)}(h:LL M U Ls)(hM:Mem.le M M'):LL M' U Ls:=h.elim fun us hu=>⟨us,hu.le hM⟩
structure LLF (M0 M:Mem) (U:Value) (Ls:List (List Value)):Prop where
  all:∃us,LLu M U us Ls∧FreshS M0 U∧∀u∈us,FreshS M0 u
theorem LLF.move{M' M'' M3:Mem}{U:Value}{Ls:List (List Value)}(h:LLF M' M'' U Ls)(h3:∀b,M' b=none→M3 b=M'' b):LL M3 U Ls:=by
  obtain ⟨us,h1,h2,h4⟩:=h.all
  exact ⟨us,h1.out.move h2 h3,h1.len,fun i hi=>(h1.at_ i hi).move (h4 _ (List.getElem_mem _)) h3⟩
theorem BorIL.get{M0 M:Mem}{H:Hp}:∀{l:List AV} {us:List Value},BorIL M0 M H l us→us.length=l.length∧∀i (h:i<us.length) v,l[i]? = some v→BorI M0 M H v us[i]
  | [],us,h=>by
    simp only[BorIL]at h
    subst h
    exact ⟨rfl,fun i h=>by simp at h⟩
  | v :: l,us,h=>by
    simp only[BorIL]at h
    obtain ⟨u,r,rfl,h1,h2⟩:=h
    obtain ⟨h3,h4⟩:=BorIL.get h2
    refine ⟨by simp[h3],fun i hi w hw=>?_⟩
    cases i with
    | zero=>simp at hw;subst hw;exact h1
    | succ i=>exact h4 i (by simpa using hi) w (by simpa using hw)
theorem BorO.isL{α:Type}{M0 M:Mem}{H:Hp}{k n:Nat}{g:α→Value}{L:List α}{u:Value}{T:TypeId}(h:BorO M0 M H (.slo k 0 n 1) u)(hk:lkH H k=some (T,cE g L))(hn:n=L.length):IsL M g u L:=by
  subst hn
  obtain ⟨vs,h2,h3⟩:=h.2 T _ hk (by rw[cE_len];omega)
  rw[List.drop_zero,List.take_of_length_le (by rw[cE_len];omega)]at h3
  obtain ⟨h4,h5⟩:=h3.get
  rw[cE_len]at h4
  have:vs=L.map g:=List.ext_getElem (by simp[h4]) fun i h6 h7=>by
    have:=h5 i h6 (.ext (g (L[i]'(by omega)))) (by rw[cE_at g (by omega)])
    simp only[BorI]at this
    rw[this,List.getElem_map]
  rw[this]at h2
  exact h2
open Classical in
theorem CallS.bor3{P:Program}{f:FuncId}{args:List AV}{H:Hp}{M:Mem}{K:AV→Hp→Mem→Prop}(hc:closedH H)(ha:∀j∈mentL args,(lkH H j).isSome=true)
    (h:∀us M' ρ w,Mem.le M M'→HoldH ρ M M' H w→isL ρ args us→∃args',(∀ρ',isL ρ' args' us)∧CallS P f args' [] M' [] (BorK H M M' K)):CallS P f args H M [] K:=by
  intro ρ w us hh he
  let B:Nat→Prop:=fun b=>∃k x,(lkH H k).isSome=true∧ρ k=some x∧x.b=b
  let M':Mem:=fun b=>if B b then w.heap[b]? else M b
  have hMB:∀b,B b→M b=none:=fun b ⟨k,x,hk,hx,e⟩=>by
    obtain ⟨y,hy⟩:=Option.isSome_iff_exists.1 hk
    rw[←e];exact (hh.hp k y.1 y.2 x hy hx).2
  have hle:Mem.le M M':=fun b o hb=>by
    by_cases hB:B b
    · rw[hMB b hB]at hb;cases hb
    · simp only[M',if_neg hB];exact hb
  have hsub:Sub M' w:=fun b o hb=>by
    by_cases hB:B b
    · simp only[M',if_pos hB]at hb;exact hb
    · simp only[M',if_neg hB]at hb;exact hh.sub b o hb
  have hheap:HeapIs ρ [] M' w:=⟨fun k T cs b hk=>by simp[lkH]at hk,fun k T cs hk=>by simp[lkH]at hk,fun k k' b b' hk=>by simp[lkH]at hk,hsub⟩
  have hhold:HoldH ρ M M' H w:=fun k T cs b hk hb=>by
    obtain ⟨⟨arr,h1⟩,h2⟩:=hh.hp k T cs b hk hb
    have hB:B b.b:=⟨k,b,by rw[hk];rfl,hb,rfl⟩
    exact ⟨⟨arr,by simp only[M',if_pos hB];exact h1.there,h1⟩,h2⟩
  obtain ⟨args',g1,g2⟩:=h us M' ρ w hle hhold he
  refine (g2 ρ w us hheap (g1 ρ)).mono fun e w' hall=>?_
  obtain ⟨r,v,H',M'',ρ',e1,⟨hK1,hK2⟩,hL⟩:=hall
  let M3:Mem:=fun b=>if B b then none else M'' b
  let ρ2:Rho:=fun k=>if (lkH H k).isSome=true then ρ k else ρ' k
  have hB3:∀b,¬B b→M3 b=M'' b:=fun b hb=>by simp only[M3,if_neg hb]
  have hle3:Mem.le M M3:=fun b o hb=>by
    have hB:¬B b:=fun hB=>by rw[hMB b hB]at hb;cases hb
    rw[hB3 b hB];exact hL.le b o (hle b o hb)
  have hk2:∀k,lkH H k=none→ρ2 k=ρ' k:=fun k hk=>by simp only[ρ2,hk];simp
  have hk1:∀k,(lkH H k).isSome=true→ρ2 k=ρ k:=fun k hk=>by simp only[ρ2,if_pos hk]
  have hmv:∀k,(lkH H k).isSome=true→k∉v.ment∧∀j T cs,lkH H' j=some (T,cs)→k∉mentL cs:=fun k hk=>hL.ment k (hK1 k hk)
  have hag:∀k,k∈v.ment→ρ' k=ρ2 k:=fun k hk=>by
    refine (hk2 k ?_).symm
    cases e:lkH H k with
    | none=>rfl
    | some x=>exact absurd hk (hmv k (by rw[e];rfl)).1
  have hlow:∀k x,(lkH H k).isSome=true→ρ k=some x→x.b<w.heap.size:=fun k x hk hx=>by
    obtain ⟨y,hy⟩:=Option.isSome_iff_exists.1 hk
    obtain ⟨⟨arr,h1⟩,_⟩:=hh.hp k y.1 y.2 x hy hx
    exact (Array.getElem?_eq_some_iff.1 h1.there).1
  have hblk:∀b,b<w.heap.size→w'.heap[b]? = w.heap[b]?:=fun b hb=>hL.block b hb fun j y hj=>by simp[lkH]at hj
  have hfr:∀k b,(lkH H' k).isSome=true→ρ' k=some b→w.heap.size≤b.b:=fun k b hk hb=>by
    rcases hL.fresh k b hk hb with h1|⟨j,x,h1,_⟩
    · exact h1
    · simp[lkH]at h1
  have hnB:∀k b,(lkH H' k).isSome=true→ρ' k=some b→¬B b.b:=fun k b hk hb ⟨j,x,hj,hx,e⟩=>by
    have:=hfr k b hk hb
    have:=hlow j x hj hx
    omega
  have hsplit:∀k x,lkH (H'++H) k=some x→(lkH H' k=some x∧lkH H k=none)∨(lkH H' k=none∧lkH H k=some x):=fun k x hx=>by
    rw[lkH_append]at hx
    cases e:lkH H' k with
    | none=>rw[e]at hx;exact .inr ⟨rfl,hx⟩
    | some y=>
      rw[e]at hx
      refine .inl ⟨hx,?_⟩
      cases e2:lkH H k with
      | none=>rfl
      | some z=>have:=hK1 k (by rw[e2];rfl);rw[e]at this;cases this
  have hag3:∀b,M' b=none→M3 b=M'' b:=fun b hb=>by
    refine hB3 b fun hB=>?_
    obtain ⟨k,x,hk,hx,e⟩:=hB
    obtain ⟨y,hy⟩:=Option.isSome_iff_exists.1 hk
    obtain ⟨⟨arr,h1⟩,_⟩:=hh.hp k y.1 y.2 x hy hx
    have hB:B b:=⟨k,x,hk,hx,e⟩
    simp only[M',if_pos hB]at hb
    rw[←e,h1.there]at hb
    cases hb
  have hsame:M''=M'→M3=M:=fun e=>funext fun b=>by
    by_cases hB:B b
    · simp only[M3,if_pos hB,hMB b hB]
    · simp only[M3,if_neg hB,e,M']
  refine ⟨r,v,H'++H,M3,ρ2,e1,hK2 M3 hle3 hag3 hsame,?_⟩
  refine {is:=is_agree hag hL.is,heap:=⟨fun k T cs b hk hb=>?_,fun k T cs hk hb=>?_,fun k k' b b' hk hk' hb hb' e=>?_,fun b o hb=>?_⟩,keep:=fun k hk=>?_,same:=fun k hk _=>?_,ment:=fun k hk=>?_,fresh:=fun k b hk hb=>?_,os:=hL.os,tape:=hL.tape,output:=hL.output,size:=hL.size,block:=fun b hb _=>hblk b hb,le:=hle3,mem:=fun b hb=>?_}
  · rcases hsplit k _ hk with ⟨h1,h2⟩|⟨h1,h2⟩
    · rw[hk2 k h2]at hb
      obtain ⟨⟨arr,f1⟩,f2⟩:=hL.heap.hp k T cs b h1 hb
      refine ⟨⟨arr,f1.there,f1.size,f1.le,fun i x hx=>is_agree (fun q hq=>(hk2 q ?_).symm) (f1.is i x hx)⟩,?_⟩
      · cases e:lkH H q with
        | none=>rfl
        | some y=>exact absurd (mentL_get hx hq) ((hmv q (by rw[e];rfl)).2 k T cs h1)
      · rw[hB3 b.b (hnB k b (by rw[h1];rfl) hb)];exact f2
    · rw[hk1 k (by rw[h2];rfl)]at hb
      obtain ⟨⟨arr,f1⟩,f2⟩:=hh.hp k T cs b h2 hb
      have hB:B b.b:=⟨k,b,by rw[h2];rfl,hb,rfl⟩
      refine ⟨⟨arr,?_,f1.size,f1.le,fun i x hx=>is_agree (fun q hq=>(hk1 q (hc k T cs q h2 (mentL_get hx hq))).symm) (f1.is i x hx)⟩,by simp only[M3,if_pos hB]⟩
      rw[hblk b.b (hlow k b (by rw[h2];rfl) hb)];exact f1.there
  · rcases hsplit k _ hk with ⟨h1,h2⟩|⟨h1,h2⟩
    · rw[hk2 k h2]at hb;exact hL.heap.no k T cs h1 hb
    · rw[hk1 k (by rw[h2];rfl)]at hb;exact hh.no k T cs h2 hb
  · obtain ⟨x,hx⟩:=Option.isSome_iff_exists.1 hk
    obtain ⟨x',hx'⟩:=Option.isSome_iff_exists.1 hk'
    rcases hsplit k _ hx with ⟨h1,h2⟩|⟨h1,h2⟩<;>rcases hsplit k' _ hx' with ⟨h3,h4⟩|⟨h3,h4⟩
    · rw[hk2 k h2]at hb;rw[hk2 k' h4]at hb'
      exact hL.heap.inj k k' b b' (by rw[h1];rfl) (by rw[h3];rfl) hb hb' e
    · rw[hk2 k h2]at hb;rw[hk1 k' (by rw[h4];rfl)]at hb'
      have:=hfr k b (by rw[h1];rfl) hb
      have:=hlow k' b' (by rw[h4];rfl) hb'
      omega
    · rw[hk1 k (by rw[h2];rfl)]at hb;rw[hk2 k' h4]at hb'
      have:=hlow k b (by rw[h2];rfl) hb
      have:=hfr k' b' (by rw[h3];rfl) hb'
      omega
    · rw[hk1 k (by rw[h2];rfl)]at hb;rw[hk1 k' (by rw[h4];rfl)]at hb'
      exact hh.inj k k' b b' (by rw[h2];rfl) (by rw[h4];rfl) hb hb' e
  · by_cases hB:B b
    · simp only[M3,if_pos hB]at hb;cases hb
    · rw[hB3 b hB]at hb;exact hL.heap.sub b o hb
  · obtain ⟨x,hx⟩:=Option.isSome_iff_exists.1 hk
    rw[lkH_append,hK1 k hk];exact hk
  · rcases hk with hk|hk
    · exact hk1 k hk
    · have h1:lkH H' k=none:=by
        rw[lkH_append]at hk
        cases e:lkH H' k with
        | none=>rfl
        | some y=>rw[e]at hk;cases hk
      have h2:lkH H k=none:=by rw[lkH_append,h1]at hk;exact hk
      rw[hk2 k h2]
      exact hL.same k (.inr h1) (by simp)
  · have h1:lkH H' k=none:=by
      rw[lkH_append]at hk
      cases e:lkH H' k with
      | none=>rfl
      | some y=>rw[e]at hk;cases hk
    have h2:lkH H k=none:=by rw[lkH_append,h1]at hk;exact hk
    obtain ⟨m1,m2⟩:=hL.ment k h1
    refine ⟨m1,fun j T cs hj=>?_⟩
    rcases hsplit j _ hj with ⟨h3,h4⟩|⟨h3,h4⟩
    · exact m2 j T cs h3
    · exact fun hm=>by have:=hc j T cs k h4 hm;rw[h2]at this;cases this
  · obtain ⟨x,hx⟩:=Option.isSome_iff_exists.1 hk
    rcases hsplit k _ hx with ⟨h1,h2⟩|⟨h1,h2⟩
    · rw[hk2 k h2]at hb
      exact .inl (hfr k b (by rw[h1];rfl) hb)
    · rw[hk1 k (by rw[h2];rfl)]at hb
      exact .inr ⟨k,b,by rw[h2];rfl,hb,rfl⟩
  · have hB:¬B b:=fun hB=>hb (by simp only[M3,if_pos hB])
    rw[hB3 b hB]at hb
    rcases hL.mem b hb with h1|h1
    · simp only[M',if_neg hB]at h1;exact .inl h1
    · exact .inr h1
def frzE(us:Nat→Value):List Nat→Env→Env
  | [],E=>E
  | t :: r,E=>(t,.ext (us t)) :: frzE us r E
theorem lk_frzE(us:Nat→Value)(E:Env):∀(ts:List Nat) (t:Nat),lk (frzE us ts E) t=.ext (us t)∨lk (frzE us ts E) t=lk E t
  | [],t=>.inr rfl
  | q :: r,t=>by
    simp only[frzE,lk]
    split
    · rename_i e;subst e;exact .inl rfl
    · exact lk_frzE us E r t
open Classical in
theorem Fz.frz{z:St}{B:St→Prop}(F:Hp)(ts:List Nat)(E:Env)(R:Hp)(hc:closedH F)(hF:∀k x,lkH F k=some x→lkH z.hp k=some x∧z.kb≤k)
    (hE:subE E z.env) (hE2:∀k,(lkH F k).isSome=true→k∉mentE E) (hR:subHp R z.hp) (hR2:∀k,(lkH F k).isSome=true→k∉mentH R) (hkeep:keepLt z.kb R z.hp) (hfx:∀k,k<z.kb→(lkH z.hp k).isSome=true→k∈z.fx)
    (h:∀M' ρ w us,Mem.le z.M M'→HoldH ρ z.M M' F w→(∀t,(lk z.env t).is ρ (us t))→B {env:=frzE us ts E,hp:=R,M:=M',kb:=z.kb,fx:=z.fx,fr:=z.fr}):Fz z B:=fun c n a w hcx ⟨ρ,g⟩=>by
  let D:Nat→Prop:=fun b=>∃k x,(lkH F k).isSome=true∧ρ k=some x∧x.b=b
  let M':Mem:=fun b=>if D b then w.heap[b]? else z.M b
  have hFz:∀k,(lkH F k).isSome=true→(lkH z.hp k).isSome=true∧z.kb≤k:=fun k hk=>by
    obtain ⟨x,hx⟩:=Option.isSome_iff_exists.1 hk
    obtain ⟨h1,h2⟩:=hF k x hx
    exact ⟨by rw[h1];rfl,h2⟩
  have hRz:∀k x,lkH R k=some x→lkH z.hp k=some x:=subHp_lk hR
  have hRF:∀k x,lkH R k=some x→lkH F k=none:=fun k x hx=>by
    cases e:lkH F k with
    | none=>rfl
    | some y=>exact absurd (mentH_lk (T:=x.1) (cs:=x.2) hx (.inl rfl)) (hR2 k (by rw[e];rfl))
  have hMD:∀b,D b→z.M b=none:=fun b ⟨k,x,hk,hx,e⟩=>by
    obtain ⟨y,hy⟩:=Option.isSome_iff_exists.1 hk
    rw[←e];exact (g.hp k y.1 y.2 x (hF k y hy).1 hx).2.2
  have hle:Mem.le z.M M':=fun b o hb=>by
    by_cases hD:D b
    · rw[hMD b hD]at hb;cases hb
    · simp only[M',if_neg hD];exact hb
  have hhold:HoldH ρ z.M M' F w:=fun k T cs b hk hb=>by
    obtain ⟨⟨arr,h1⟩,_,h2⟩:=g.hp k T cs b (hF k _ hk).1 hb
    have hD:D b.b:=⟨k,b,by rw[hk];rfl,hb,rfl⟩
    exact ⟨⟨arr,by simp only[M',if_pos hD];exact h1.there,h1⟩,h2⟩
  refine ⟨_,⟨ρ,?_⟩,h M' ρ w (fun t=>a.tmps.getD t undef) hle hhold g.env⟩
  refine {df:=g.df,sz:=g.sz,env:=fun t=>?_,hp:=fun j T' cs b hj hb=>?_,no:=fun j T' cs hj hb=>g.no j T' cs (hRz j _ hj) hb,inj:=fun j j' b b' hj hj' hb hb' e=>?_,os:=g.os,tape:=g.tape,output:=g.output,size:=g.size,block:=g.block,sub:=fun b o hb=>?_,le:=g.le.trans hle,mf:=fun b hb=>?_,fix:=fun j hj=>keepLt_ok hkeep j (g.kl j hj) (g.fix j hj),fx:=g.fx,kl:=g.kl,fr:=g.fr}
  · show (lk (frzE _ ts E) t).is ρ _
    rcases lk_frzE (fun t=>a.tmps.getD t undef) E ts t with e|e
    · rw[e];rfl
    · rw[e]
      rcases subE_lk hE t with e2|e2
      · rw[e2];trivial
      · rw[e2];exact g.env t
  · obtain ⟨f1,f2,f3⟩:=g.hp j T' cs b (hRz j _ hj) hb
    refine ⟨f1,f2,?_⟩
    have hnD:¬D b.b:=fun ⟨k,x,hk,hx,e⟩=>by
      have:=g.inj k j x b (hFz k hk).1 (by rw[hRz j _ hj];rfl) hx hb e
      subst this
      rw[hRF k _ hj]at hk;cases hk
    show M' b.b=none
    simp only[M',if_neg hnD];exact f3
  · obtain ⟨x,hx⟩:=Option.isSome_iff_exists.1 hj
    obtain ⟨x',hx'⟩:=Option.isSome_iff_exists.1 hj'
    exact g.inj j j' b b' (by rw[hRz j x hx];rfl) (by rw[hRz j' x' hx'];rfl) hb hb' e
  · have hb:M' b=some o:=hb
    by_cases hD:D b
    · simp only[M',if_pos hD]at hb;exact hb
    · simp only[M',if_neg hD]at hb;exact g.sub b o hb
  · have hb:M' b≠none:=hb
    by_cases hD:D b
    · obtain ⟨k,x,hk,hx,e⟩:=hD
      obtain ⟨y,hy⟩:=Option.isSome_iff_exists.1 hk
      rcases (g.hp k y.1 y.2 x (hF k y hy).1 hx).2.1 with h5|h5
      · rw[←e];exact .inr h5
      · exfalso
        obtain ⟨k',y',h6,h7,h8⟩:=hcx.x _ h5
        have h9:=g.fix k' h6
        have h10:=g.kl k' h6
        have h11:=g.fx k' (hfx k' h10 h9)
        rw[h7]at h11
        have:=g.inj k' k y' x h9 (hFz k hk).1 h11 hx h8
        have:=(hFz k hk).2
        omega
    · simp only[M',if_neg hD]at hb;exact g.mf b hb
def QK(M:Mem)(K:AV→Hp→Mem→Prop)(r:Int×Nat×Nat):Prop:=∀w1 w2 M',Mem.le M M'→IsF M' w1 w2 (ofN r.2.1) (ofN r.2.2)→FreshS M w1→FreshS M w2→K (.ext (.tuple #[.agg #[w1,w2],.int .i64 r.1])) [] M'
theorem isF_zero(M:Mem):IsF M (.slice none 0 0) (.slice none 0 0) (ofN 0) (ofN 0):=isF_ofN (by rw[ofN_zero];exact isL_nil _ _ _) (by rw[ofN_zero];exact isL_nil _ _ _) ⟨ofN0_len,ofN0_len⟩
def prodG(n d:Nat):List FR→Int×Nat×Nat
  | []=>(0,n,d)
  | x :: r=>if (mulF (ofN n) (ofN d) x.l1 x.l2).1=0 then prodG (mulF (ofN n) (ofN d) x.l1 x.l2).2.1 (mulF (ofN n) (ofN d) x.l1 x.l2).2.2 r else ((mulF (ofN n) (ofN d) x.l1 x.l2).1,0,0)
theorem prodG_cons(n d:Nat)(x:FR)(r:List FR):prodG n d (x :: r)=if (mulF (ofN n) (ofN d) x.l1 x.l2).1=0 then prodG (mulF (ofN n) (ofN d) x.l1 x.l2).2.1 (mulF (ofN n) (ofN d) x.l1 x.l2).2.2 r else ((mulF (ofN n) (ofN d) x.l1 x.l2).1,0,0):=by rw[prodG]
def divG(n d:Nat):List FR→Int×List (Nat×Nat)
  | []=>(0,[])
  | x :: r=>if (divF x.l1 x.l2 (ofN n) (ofN d)).1=0 then (if (divG n d r).1=0 then (0,(divF x.l1 x.l2 (ofN n) (ofN d)).2 :: (divG n d r).2) else ((divG n d r).1,[])) else ((divF x.l1 x.l2 (ofN n) (ofN d)).1,[])
theorem divG_cons(n d:Nat)(x:FR)(r:List FR):divG n d (x :: r)=if (divF x.l1 x.l2 (ofN n) (ofN d)).1=0 then (if (divG n d r).1=0 then (0,(divF x.l1 x.l2 (ofN n) (ofN d)).2 :: (divG n d r).2) else ((divG n d r).1,[])) else ((divF x.l1 x.l2 (ofN n) (ofN d)).1,[]):=by rw[divG]
def normF(L:List FR):Int×List (Nat×Nat):=if (sumF L).1=0 then divG (sumF L).2.1 (sumF L).2.2 L else ((sumF L).1,[])
def FQ(M:Mem)(u:Value)(qs:List (Nat×Nat)):Prop:=∃L:List FR,IsR M 2 FR.c u L∧okFL M L∧L.map (fun x=>(x.l1,x.l2))=qs.map fun q=>(ofN q.1,ofN q.2)
theorem FQ.le{M M':Mem}{u:Value}{qs:List (Nat×Nat)}(h:FQ M u qs)(hM:Mem.le M M'):FQ M' u qs:=by
  obtain ⟨L,h1,h2,h3⟩:=h
  exact ⟨L,h1.le hM,h2.le hM,h3⟩
def zFR:FR:=⟨.slice none 0 0,.slice none 0 0,[],[]⟩
theorem frC_rep(n:Nat):(repN [.slice none 0 0,.slice none 0 0] n).map AV.ext=frC (List.replicate n zFR):=by
  induction n with
  | zero=>rfl
  | succ n ih=>rw[List.replicate_succ];simp only[repN,List.map_append,ih,frC,List.flatMap_cons];rfl
theorem frC_setF:∀{L:List FR} {i:Nat} (h:i<L.length) (x:FR),(frC L).take (i*2)++(.ext x.u1 :: .ext x.u2 :: (frC L).drop (i*2+2))=frC (L.set i x)
  | y :: L,0,_,x=>by simp[frC,FR.c]
  | y :: L,i+1,h,x=>by
    have ih:=frC_setF (L:=L) (i:=i) (by simpa using h) x
    have e1:∀L,frC (y :: L)=.ext y.u1 :: .ext y.u2 :: frC L:=fun L=>by simp[frC,FR.c]
    rw[List.set_cons_succ,e1,e1,show (i+1)*2=i*2+1+1 by omega,List.take_succ_cons,List.take_succ_cons,show i*2+1+1+2=i*2+2+1+1 by omega,List.drop_succ_cons,List.drop_succ_cons,←ih]
    rfl
section
variable {M:Mem}{K:AV→Hp→Mem→Prop}{u:Value}{L:List FR}
def ptpSt(M:Mem)(u w1 w2:Value)(n i:Nat):St:={env:=[(11,.ext (.int .i64 (i:Int))),(10,.ext (.int .i64 (n:Int))),(9,.ext u),(4,.own 4 0),(2,.own 2 0)],hp:=[(4,32,[.ext w1,.ext w2]),(2,32,[.ext (.slice none 0 0),.ext (.slice none 0 0)])],M:=M,kb:=0,fx:=[]}
theorem product_ok(hu:IsR M 2 FR.c u L)(hL:okFL M L)(hb:L.length<1000000)(hK:QK M K (prodG 1 1 L)):CallS Tryz.prog 124 [.ext u] [] M [] K:=by
  refine inlS (cs:=[]) Tryz.mixed Tryz.func124 rfl (by kernel_rfl) 0 rfl rfl ?_
  simp only[Tryz.f124]
  have h1:=hu.one
  have h2:=hu.len
  have h3:=hu.sl
  have hf:=h1;refine wS ?_;refine kN 119 (pwhole_ok (fun w1 w2 M1 m1 a1 f1 f2=>sG ?_));all_goals clear hf
  have m1:Mem.le M M1:=m1
  have p1:=a1.n.one
  have p2:=a1.d.one
  refine wG (A5 h1 h2 h3 p1 p2) ?_
  refine ⟨fun m z=>∃M' w1 w2 n d i,m=L.length-i∧i≤L.length∧Mem.le M M'∧IsF M' w1 w2 (ofN n) (ofN d)∧FreshS M w1∧FreshS M w2∧prodG n d (L.drop i)=prodG 1 1 L∧z=ptpSt M' u w1 w2 L.length i,
    ⟨L.length,ptpSt M1 u w1 w2 L.length 0,le_sub ⟨rfl,rfl,rfl,rfl,rfl,trivial⟩ ⟨rfl,rfl,trivial⟩ rfl rfl rfl (keepLt0 _),⟨M1,w1,w2,1,1,0,by omega,by omega,m1,a1,f1,f2,rfl,rfl⟩⟩,?_⟩
  clear p1 p2 a1 f1 f2
  rintro m z ⟨M2,w1,w2,n,d,i,rfl,hi,hM,hw,f1,f2,hs,rfl⟩
  have hu2:=hu.le hM
  have hL2:=hL.le hM
  have p1:=hw.n.one
  have p2:=hw.d.one
  by_cases hlt:i<L.length
  case neg=>
    obtain rfl:i=L.length:=by omega
    have e1:decide ((L.length:Int)<(L.length:Int))=false:=by simp
    rw[List.drop_length]at hs
    rw[←hs]at hK
    refine wT (A4 @ptpSt.eq_1 p1 p2 e1) ?_
    exact hK _ _ _ hM hw f1 f2
  have e1:decide ((i:Int)<(L.length:Int))=true:=by rw[decide_eq_true_eq];omega
  have b1:(0:Int)≤(i:Int):=by omega
  have b2:(i:Int)<(L.length:Int):=by omega
  have hnn:=hu2.nn hlt
  have hat:=hu2.at (P:=Tryz.prog) (T:=32) (fun _=>rfl) tk32 tz32 hlt
  have hF:=hL2 _ (List.getElem_mem hlt)
  rw[drop_next hlt]at hs
  have wi:IntKind.i64.wrap ((i:Int)+1)=((i+1:Nat):Int):=succ_i (by omega)
  generalize L[i]=x at *
  obtain ⟨x1,x2,y1,y2⟩:=x
  have hat:lookM Tryz.prog 32 M2 (elemP u 2 i)=some (.agg #[x1,x2]):=hat
  have hF:IsF M2 x1 x2 y1 y2:=hF
  have p3:=hF.n.one
  have p4:=hF.d.one
  simp only[prodG_cons]at hs
  have hf:=A12 @ptpSt.eq_1 h1 h2 h3 hnn p1 p2 p3 p4 e1 b1 (A2 b2 hat);refine wS ?_;refine kN 39 (fmul_ok hw hF (fun v1 v2 M3 c1 c2 c3 c4 c5=>sG ?_));all_goals clear hf
  have c1:Mem.le M2 M3:=c1
  have hv:=isF_ofN c2 c3 (mulF_len' (ofN n) (ofN d) y1 y2)
  have p5:=c2.one
  have p6:=c3.one
  refine Stop.go ?_
  by_cases h0:(mulF (ofN n) (ofN d) y1 y2).1=0
  · have e2:decide ((mulF (ofN n) (ofN d) y1 y2).1=0)=true:=decide_eq_true h0
    rw[if_pos h0]at hs
    refine wT (A4 p5 p6 e2 wi) ?_
    exact ⟨L.length-(i+1),ptpSt M3 u v1 v2 L.length (i+1),by omega,le_sub ⟨rfl,rfl,rfl,rfl,rfl,trivial⟩ ⟨rfl,rfl,trivial⟩ rfl rfl rfl (keepLt0 _),M3,v1,v2,_,_,i+1,rfl,by omega,hM.trans c1,hv,c4.le hM,c5.le hM,hs,rfl⟩
  · have e2:decide ((mulF (ofN n) (ofN d) y1 y2).1=0)=false:=decide_eq_false h0
    rw[if_neg h0]at hs
    rw[←hs]at hK
    refine wT (A4 p5 p6 e2 wi) ?_
    exact hK _ _ _ (hM.trans c1) (isF_zero _) (freshS_nil _ _) (freshS_nil _ _)
theorem product_bor(k n:Nat)(T:TypeId){a b:Nat}(hn:n=L.length)(hL:okFL M L)(hb:L.length<1000000)(hv:prodG 1 1 L=(0,a,b))(hK:∀w1 w2 M',Mem.le M M'→IsF M' w1 w2 (ofN a) (ofN b)→K (.ext (.tuple #[.agg #[w1,w2],.int .i64 0])) [(k,T,frC L)] M') :
    CallS Tryz.prog 124 [.slo k 0 n 2] [(k,T,frC L)] M [] K:=by
  refine CallS.bor ⟨⟨_,rfl⟩,trivial⟩ fun us M' hM hb'=>?_
  obtain ⟨v1,_,rfl,h1,rfl⟩:=hb'
  have g1:=h1.isR (L:=L) (T:=T) (by simp[lkH]) hn
  refine product_ok g1 (hL.le hM) hb fun w1 w2 M2 a1 a2 a4 a5=>?_
  rw[hv]at a2 ⊢
  exact ⟨fun j hj=>rfl,fun M3 h5 h6 _=>hK w1 w2 M3 h5 ⟨a2.n.move a4 h6,a2.d.move a5 h6,a2.on,a2.od,a2.bn,a2.bd⟩⟩
structure QuoI (M:Mem) (n d:Nat) (L D:List FR) (ds:List (Nat×Nat)) (i:Nat):Prop where
  len:D.length=i
  ok:okFL M D
  val:D.map (fun x=>(x.l1,x.l2))=ds.map fun q=>(ofN q.1,ofN q.2)
  rest:divG n d L=if (divG n d (L.drop i)).1=0 then (0,ds++(divG n d (L.drop i)).2) else ((divG n d (L.drop i)).1,[])
theorem quoI_start(M:Mem)(n d:Nat)(L:List FR):QuoI M n d L [] [] 0:=⟨rfl,fun x hx=>(by cases hx),rfl,by
  rw[List.drop_zero,List.nil_append]
  cases h:divG n d L with
  | mk e q=>
    by_cases h0:e=0
    · subst h0;rfl
    · rw[if_neg h0]
      have:∀(L:List FR) e q,divG n d L=(e,q)→e≠0→q=[]:=fun L=>by
        cases L with
        | nil=>intro e q h h0;rw[divG]at h;cases h;exact absurd rfl h0
        | cons x r=>
          intro e q h h0
          rw[divG_cons]at h
          (repeat' split at h)<;>cases h<;>first|rfl|exact absurd rfl h0
      rw[this L e q h h0]⟩
theorem QuoI.step{M M':Mem}{n d i:Nat}{L D:List FR}{ds:List (Nat×Nat)}(h:QuoI M n d L D ds i)(hM:Mem.le M M')(hi:i<L.length){v1 v2:Value}(h0:(divF L[i].l1 L[i].l2 (ofN n) (ofN d)).1=0)
    (hv:IsF M' v1 v2 (ofN (divF L[i].l1 L[i].l2 (ofN n) (ofN d)).2.1) (ofN (divF L[i].l1 L[i].l2 (ofN n) (ofN d)).2.2)) :
    QuoI M' n d L (D++[⟨v1,v2,ofN (divF L[i].l1 L[i].l2 (ofN n) (ofN d)).2.1,ofN (divF L[i].l1 L[i].l2 (ofN n) (ofN d)).2.2⟩]) (ds++[(divF L[i].l1 L[i].l2 (ofN n) (ofN d)).2]) (i+1):=by
  refine ⟨by rw[List.length_append,h.len];rfl,fun x hx=>?_,by rw[List.map_append,List.map_append,h.val];rfl,?_⟩
  · rcases List.mem_append.1 hx with hx|hx
    · exact (h.ok x hx).le hM
    · rw[List.mem_singleton.1 hx];exact hv
  · have h1:=h.rest
    rw[List.drop_eq_getElem_cons hi,divG_cons,if_pos h0]at h1
    rw[h1]
    by_cases h2:(divG n d (L.drop (i+1))).1=0
    · rw[if_pos h2,if_pos h2];simp
    · rw[if_neg h2,if_neg h2,if_neg h2]
theorem QuoI.stop{M:Mem}{n d i:Nat}{L D:List FR}{ds:List (Nat×Nat)}(h:QuoI M n d L D ds i)(hi:i<L.length)(h0:(divF L[i].l1 L[i].l2 (ofN n) (ofN d)).1≠0):divG n d L=((divF L[i].l1 L[i].l2 (ofN n) (ofN d)).1,[]):=by
  have h1:=h.rest
  rw[List.drop_eq_getElem_cons hi,divG_cons,if_neg h0,if_neg h0]at h1
  exact h1
theorem QuoI.done{M:Mem}{n d:Nat}{L D:List FR}{ds:List (Nat×Nat)}(h:QuoI M n d L D ds L.length):divG n d L=(0,ds):=by
  have h1:=h.rest
  rw[List.drop_length,divG,if_pos rfl,List.append_nil]at h1
  exact h1
theorem set_fill(D:List FR)(n i:Nat)(hD:D.length=i)(hi:i<n)(x:FR):(D++List.replicate (n-i) zFR).set i x=(D++[x])++List.replicate (n-(i+1)) zFR:=by
  rw[show n-i=n-(i+1)+1 by omega,List.replicate_succ,List.set_append_right _ _ (by omega),hD,Nat.sub_self,List.set_cons_zero,List.append_assoc];rfl
theorem okFL_sum{M:Mem}{L:List FR}{w1 w2:Value}(h1:IsL M u32V w1 (ofN (sumF L).2.1))(h2:IsL M u32V w2 (ofN (sumF L).2.2)):IsF M w1 w2 (ofN (sumF L).2.1) (ofN (sumF L).2.2):=isF_ofN h1 h2 (sumF_len L)
def FQF(M0 M:Mem)(u:Value)(qs:List (Nat×Nat)):Prop:=∃L:List FR,IsR M 2 FR.c u L∧okFL M L∧L.map (fun x=>(x.l1,x.l2))=(qs.map fun q=>(ofN q.1,ofN q.2))∧FreshS M0 u∧∀x∈L,FreshS M0 x.u1∧FreshS M0 x.u2
theorem FQF.fq{M0 M:Mem}{u:Value}{qs:List (Nat×Nat)}(h:FQF M0 M u qs):FQ M u qs:=by
  obtain ⟨L,h1,h2,h3,_⟩:=h
  exact ⟨L,h1,h2,h3⟩
theorem FQF.move{M0 M M3:Mem}{u:Value}{qs:List (Nat×Nat)}(h:FQF M0 M u qs)(h3:∀b,M0 b=none→M3 b=M b):FQ M3 u qs:=by
  obtain ⟨L,h1,h2,h4,h5,h6⟩:=h
  refine ⟨L,SlM.move h1 h5 h3,fun x hx=>?_,h4⟩
  have hf:=h2 x hx
  exact ⟨hf.n.move (h6 x hx).1 h3,hf.d.move (h6 x hx).2 h3,hf.on,hf.od,hf.bn,hf.bd⟩
theorem FQF.le{M0 M M':Mem}{u:Value}{qs:List (Nat×Nat)}(h:FQF M0 M u qs)(hM:Mem.le M M'):FQF M0 M' u qs:=by
  obtain ⟨L,h1,h2,h4,h5,h6⟩:=h
  exact ⟨L,h1.le hM,h2.le hM,h4,h5,h6⟩
theorem FQF.base{M0 M1 M:Mem}{u:Value}{qs:List (Nat×Nat)}(h:FQF M1 M u qs)(hM:Mem.le M0 M1):FQF M0 M u qs:=by
  obtain ⟨L,h1,h2,h4,h5,h6⟩:=h
  exact ⟨L,h1,h2,h4,h5.le hM,fun x hx=>⟨(h6 x hx).1.le hM,(h6 x hx).2.le hM⟩⟩
theorem fqf_nil(M0 M:Mem):FQF M0 M (.slice none 0 0) []:=⟨[],isR_nil _ _ _ _,fun x hx=>(by cases hx),rfl,freshS_nil _ _,fun x hx=>(by cases hx)⟩
def LQF(M:Mem)(K:AV→Hp→Mem→Prop)(r:Int×List (Nat×Nat)):Prop:=∀U M',Mem.le M M'→FQF M M' U r.2→K (.ext (.tuple #[U,.int .i64 r.1])) [] M'
def LQK(M:Mem)(K:AV→Hp→Mem→Prop)(r:Int×List (Nat×Nat)):Prop:=∀U M',Mem.le M M'→FQ M' U r.2→K (.ext (.tuple #[U,.int .i64 r.1])) [] M'
theorem fq_nil(M:Mem):FQ M (.slice none 0 0) []:=⟨[],isR_nil _ _ _ _,fun x hx=>(by cases hx),rfl⟩
def nrmSt(M:Mem)(u s1 s2:Value)(n i:Nat)(D:List FR):St:={env:=[(22,.ext (.int .i64 (i:Int))),(21,.ext (.int .i64 (n:Int))),(20,.ext u),(6,.slo 19 0 n 2),(4,.own 4 0)],hp:=[(19,32,frC (D++List.replicate (n-i) zFR)),(4,32,[.ext s1,.ext s2])],M:=M,kb:=0,fx:=[]}
theorem normalF_ok(hu:IsR M 2 FR.c u L)(hL:okFL M L)(hb:L.length<1000000)(hK:LQF M K (normF L)):CallS Tryz.prog 125 [.ext u] [] M [] K:=by
  refine CallS.frzF ?_
  refine inlS (cs:=[]) Tryz.mixed Tryz.func125 rfl (by kernel_rfl) 0 rfl rfl ?_
  simp only[Tryz.f125]
  have h1:=hu.one
  have h2:=hu.len
  have h3:=hu.sl
  unfold normF at hK
  have hf:=h1;refine wS ?_;refine kN 37 (fsum_ok hu hL hb (fun s1 s2 M1 m1 a1 a2 _ _=>sG ?_));all_goals clear hf
  have m1:Mem.le M M1:=m1
  have hs:=okFL_sum a1 a2
  have p1:=a1.one
  have p2:=a2.one
  by_cases h0:(sumF L).1=0
  case neg=>
    rw[if_neg h0]at hK
    have e1:decide ((sumF L).1=0)=false:=decide_eq_false h0
    refine wG (A5 h1 p1 p2 e1 @hasK_nil) ?_
    exact .inl (hK _ _ m1 (fqf_nil _ _))
  rw[if_pos h0]at hK
  have e1:decide ((sumF L).1=0)=true:=decide_eq_true h0
  have t1:=Int.toNat_natCast L.length
  have t2:=frC_rep L.length
  refine wG (A11 h1 h2 h3 p1 p2 e1 t1 t2 @frC_ment @frC_kill @hasK_nil) ?_
  clear e1 t1 t2
  generalize (sumF L).2.1=sn at *
  generalize (sumF L).2.2=sd at *
  refine ⟨fun m z=>∃M' D ds i,m=L.length-i∧i≤L.length∧Mem.le M1 M'∧QuoI M' sn sd L D ds i∧(∀x∈D,FreshS M x.u1∧FreshS M x.u2)∧z=nrmSt M' u s1 s2 L.length i D,
    ⟨L.length,nrmSt M1 u s1 s2 L.length 0 [],le_sub ⟨rfl,rfl,rfl,rfl,rfl,trivial⟩ ⟨rfl,rfl,trivial⟩ rfl rfl rfl (keepLt0 _),⟨M1,[],[],0,by omega,by omega,Mem.le.refl _,quoI_start _ _ _ _,(fun x hx=>by cases hx),rfl⟩⟩,?_⟩
  rintro m z ⟨M2,D,ds,i,rfl,hi,hM,hD,hDf,rfl⟩
  have hu2:=(hu.le m1).le hM
  have hL2:=(hL.le m1).le hM
  have hs2:=hs.le hM
  by_cases hlt:i<L.length
  case neg=>
    obtain rfl:i=L.length:=by omega
    have e1:decide ((L.length:Int)<(L.length:Int))=false:=by simp
    rw[hD.done]at hK
    have hf:frC (D++List.replicate (L.length-L.length) zFR)=frC D:=by rw[Nat.sub_self,List.replicate_zero,List.append_nil]
    refine wT (A8 @nrmSt.eq_1 hf @frC_ment @frC_kill @hasK_nil p1 p2 e1) ?_
    refine FrzF.tup [] [.int .i64 0] (D.flatMap FR.c) rfl (by rw[flat_len (z:=2) (f:=FR.c) (fun _=>rfl),hD.len]) fun U M3 g1 g2 g3=>hK U M3 (m1.trans (hM.trans g1)) ⟨D,?_,hD.ok.le g1,hD.val,(g3.le hM).le m1,hDf⟩
    unfold IsR
    rw[hD.len];exact g2
  have e1:decide ((i:Int)<(L.length:Int))=true:=by rw[decide_eq_true_eq];omega
  have b1:(0:Int)≤(i:Int):=by omega
  have b2:(i:Int)<(L.length:Int):=by omega
  have hnn:=hu2.nn hlt
  have hat:=hu2.at (P:=Tryz.prog) (T:=32) (fun _=>rfl) tk32 tz32 hlt
  have hF:=hL2 _ (List.getElem_mem hlt)
  have hstep:=fun (M3:Mem) (v1 v2:Value) (c:Mem.le M2 M3)=>hD.step c hlt (v1:=v1) (v2:=v2)
  have hstop:=hD.stop hlt
  have wi:IntKind.i64.wrap ((i:Int)+1)=((i+1:Nat):Int):=succ_i (by omega)
  have hlen:=frC_len (D++List.replicate (L.length-i) zFR)
  rw[List.length_append,hD.len,List.length_replicate,show i+(L.length-i)=L.length by omega]at hlen
  have hin:i*2+2≤L.length*2:=by omega
  generalize L[i]=x at *
  obtain ⟨x1,x2,y1,y2⟩:=x
  have hat:lookM Tryz.prog 32 M2 (elemP u 2 i)=some (.agg #[x1,x2]):=hat
  have hF:IsF M2 x1 x2 y1 y2:=hF
  have p3:=hF.n.one
  have p4:=hF.d.one
  simp only at hstep hstop
  have hf:=A12 @nrmSt.eq_1 h1 h2 h3 hnn p1 p2 p3 p4 e1 b1 (A5 b2 hat @frC_ment @frC_kill @hasK_nil);refine wS ?_;refine kN 164 (fdiv_ok hF hs2 (fun v1 v2 M3 c1 c2 c3 c4 c5=>sG ?_));all_goals clear hf
  have c1:Mem.le M2 M3:=c1
  have hv:=isF_ofN c2 c3 (divF_len' y1 y2 (ofN sn) (ofN sd))
  have p5:=c2.one
  have p6:=c3.one
  have hst:=frC_setF (L:=D++List.replicate (L.length-i) zFR) (i:=i) (by rw[List.length_append,hD.len,List.length_replicate];omega) ⟨v1,v2,ofN (divF y1 y2 (ofN sn) (ofN sd)).2.1,ofN (divF y1 y2 (ofN sn) (ofN sd)).2.2⟩
  rw[set_fill D _ _ hD.len hlt]at hst
  refine Stop.go ?_
  by_cases h0:(divF y1 y2 (ofN sn) (ofN sd)).1=0
  · have e2:decide ((divF y1 y2 (ofN sn) (ofN sd)).1=0)=true:=decide_eq_true h0
    refine wT (A12 p5 p6 e2 wi b1 b2 hlen hin hst @frC_ment @frC_kill (A2 @hasK_nil @Nat.zero_add)) ?_
    exact ⟨L.length-(i+1),nrmSt M3 u s1 s2 L.length (i+1) _,by omega,le_sub ⟨rfl,rfl,rfl,rfl,rfl,trivial⟩ ⟨rfl,rfl,trivial⟩ rfl rfl rfl (keepLt0 _),M3,_,_,i+1,rfl,by omega,hM.trans c1,hstep M3 v1 v2 c1 h0 hv,(fun x hx=>by
      rcases List.mem_append.1 hx with hx|hx
      · exact hDf x hx
      · rw[List.mem_singleton.1 hx];exact ⟨(c4.le hM).le m1,(c5.le hM).le m1⟩),rfl⟩
  · have e2:decide ((divF y1 y2 (ofN sn) (ofN sd)).1=0)=false:=decide_eq_false h0
    rw[hstop h0]at hK
    refine wT (A12 p5 p6 e2 wi b1 b2 hlen hin hst @frC_ment @frC_kill (A2 @hasK_nil @Nat.zero_add)) ?_
    exact .inl (hK _ _ (m1.trans (hM.trans c1)) (fqf_nil _ _))
def whoSt(M:Mem)(u s1 s2:Value)(e:Int)(i:Nat)(D:List FR):St:={env:=[(7,.ext (.int .i64 (i:Int))),(6,.slo 36 0 i 2),(5,.ext (.int .i64 e)),(4,.own 4 0),(0,.ext u)],hp:=[(36,32,frC D),(4,32,[.ext s1,.ext s2])],M:=M,kb:=0,fx:=[]}
theorem rwhole_ok(hu:IsR M 2 FR.c u L)(hL:okFL M L)(hb:L.length<1000000)(hK:LQK M K (normF L)):CallS Tryz.prog 89 [.ext u] [] M [] K:=by
  refine CallS.frz ?_
  refine inlS (cs:=[]) Tryz.mixed Tryz.func89 rfl (by kernel_rfl) 0 rfl rfl ?_
  simp only[Tryz.f89]
  have h1:=hu.one
  have h2:=hu.len
  have h3:=hu.sl
  unfold normF at hK
  have hf:=h1;refine wS ?_;refine kN 135 (rfsum_ok hu hL hb (fun s1 s2 M1 m1 a1 a2 _ _=>sG ?_));all_goals clear hf
  have m1:Mem.le M M1:=m1
  have hs:=okFL_sum a1 a2
  have p1:=a1.one
  have p2:=a2.one
  refine wG (A4 h1 p1 p2 @hasK_nil) ?_
  refine ⟨fun m z=>∃M' e D ds i,(m=if e=0 then L.length+1-i else 0)∧i≤L.length∧Mem.le M1 M'∧((e=0∧(sumF L).1=0∧QuoI M' (sumF L).2.1 (sumF L).2.2 L D ds i)∨(e≠0∧D.length=i∧(if (sumF L).1=0 then divG (sumF L).2.1 (sumF L).2.2 L else ((sumF L).1,[]))=(e,[])))∧z=whoSt M' u s1 s2 e i D,
    ⟨_,whoSt M1 u s1 s2 (sumF L).1 0 [],(le_nil 6 36 32 2 rfl (.inl (by simp[awayB,mentE,mentH,mentL,AV.ment,hasK]))).trans (le_sub ⟨rfl,rfl,rfl,rfl,rfl,trivial⟩ ⟨rfl,rfl,trivial⟩ rfl rfl rfl (keepLt0 _)),⟨M1,_,[],[],0,rfl,by omega,Mem.le.refl _,?_,rfl⟩⟩,?_⟩
  · by_cases h0:(sumF L).1=0
    · exact .inl ⟨h0,h0,quoI_start _ _ _ _⟩
    · exact .inr ⟨h0,rfl,by rw[if_neg h0]⟩
  rintro m z ⟨M2,e,D,ds,i,rfl,hi,hM,hor,rfl⟩
  have hu2:=(hu.le m1).le hM
  have hL2:=(hL.le m1).le hM
  have hs2:=hs.le hM
  have de:decide ((i:Int)<(L.length:Int))=decide (i<L.length):=by
    by_cases h:i<L.length
    · rw[decide_eq_true h,decide_eq_true (by omega)]
    · rw[decide_eq_false h,decide_eq_false (by omega)]
  rcases hor with ⟨rfl,hs0,hD⟩|⟨he,hDl,hE⟩
  case inr=>
    rw[hE]at hK
    have e1:decide (e=0)=false:=decide_eq_false he
    cases hc:decide (i<L.length) with
    | false=>
      refine wT (A12 @whoSt.eq_1 h1 h2 h3 p1 p2 de hc e1 @frC_ment @frC_kill @hasK_nil) ?_
      exact .inl (hK _ _ (m1.trans hM) (fq_nil _))
    | true=>
      refine wT (A12 @whoSt.eq_1 h1 h2 h3 p1 p2 de hc e1 @frC_ment @frC_kill @hasK_nil) ?_
      exact .inl (hK _ _ (m1.trans hM) (fq_nil _))
  rw[if_pos hs0]at hK
  by_cases hlt:i<L.length
  case neg=>
    obtain rfl:i=L.length:=by omega
    have e1:decide ((L.length:Int)<(L.length:Int))=false:=by simp
    rw[hD.done]at hK
    refine wT (A10 @whoSt.eq_1 h1 h2 h3 @frC_ment @frC_kill @hasK_nil p1 p2 e1) ?_
    refine FrzK.tup [] [.int .i64 0] (D.flatMap FR.c) rfl (by rw[flat_len (z:=2) (f:=FR.c) (fun _=>rfl),hD.len]) fun U M3 g1 g2=>hK U M3 (m1.trans (hM.trans g1)) ⟨D,?_,hD.ok.le g1,hD.val⟩
    unfold IsR
    rw[hD.len];exact g2
  have e1:decide ((i:Int)<(L.length:Int))=true:=by rw[decide_eq_true_eq];omega
  have b1:(0:Int)≤(i:Int):=by omega
  have b2:(i:Int)<(L.length:Int):=by omega
  have hnn:=hu2.nn hlt
  have hat:=hu2.at (P:=Tryz.prog) (T:=32) (fun _=>rfl) tk32 tz32 hlt
  have hF:=hL2 _ (List.getElem_mem hlt)
  have hstep:=fun (M3:Mem) (v1 v2:Value) (c:Mem.le M2 M3)=>hD.step c hlt (v1:=v1) (v2:=v2)
  have hstop:=hD.stop hlt
  have wi:IntKind.i64.wrap ((i:Int)+1)=((i+1:Nat):Int):=succ_i (by omega)
  have hlen:=frC_len D
  rw[hD.len]at hlen
  generalize L[i]=x at *
  obtain ⟨x1,x2,y1,y2⟩:=x
  have hat:lookM Tryz.prog 32 M2 (elemP u 2 i)=some (.agg #[x1,x2]):=hat
  have hF:IsF M2 x1 x2 y1 y2:=hF
  have p3:=hF.n.one
  have p4:=hF.d.one
  simp only at hstep hstop
  clear de
  have hf:=A12 @whoSt.eq_1 h1 h2 h3 hnn p1 p2 p3 p4 e1 b1 (A5 b2 hat @frC_ment @frC_kill @hasK_nil);refine sF ?_;(repeat' ((first|((with_reducible refine yM ?_);refine kS 136 (rfdiv_ok hF hs2 (fun v1 v2 M3 c1 c2 c3 _ _=>Stop.mk ?_)))|((with_reducible refine isE 25 (by decide) ?_);refine dR (rP 0 4 [] ((4,[3]) :: (rP 5 6 [] []))) (rgL 25 5 [31,32]) [] ?_)|refine oB ?_|fail)<;>refine sF ?_<;>try with_reducible exact tT))<;>try clear hf
  have c1:Mem.le M2 M3:=c1
  generalize (sumF L).2.1=sn at *
  generalize (sumF L).2.2=sd at *
  have hv:=isF_ofN c2 c3 (divF_len' y1 y2 (ofN sn) (ofN sd))
  have p5:=c2.one
  have p6:=c3.one
  have hap:=frC_app D ⟨v1,v2,ofN (divF y1 y2 (ofN sn) (ofN sd)).2.1,ofN (divF y1 y2 (ofN sn) (ofN sd)).2.2⟩
  simp only at hap
  refine wG (A8 p5 p6 wi hlen hap @frC_ment @frC_kill @hasK_nil) ?_
  by_cases h0:(divF y1 y2 (ofN sn) (ofN sd)).1=0
  · rw[h0]
    exact ⟨L.length+1-(i+1),whoSt M3 u s1 s2 0 (i+1) _,by omega,le_sub ⟨rfl,rfl,rfl,rfl,rfl,trivial⟩ ⟨rfl,rfl,trivial⟩ rfl rfl rfl (keepLt0 _),M3,0,_,_,i+1,by rw[if_pos rfl],by omega,hM.trans c1,.inl ⟨rfl,hs0,hstep M3 v1 v2 c1 h0 hv⟩,rfl⟩
  · exact ⟨0,whoSt M3 u s1 s2 (divF y1 y2 (ofN sn) (ofN sd)).1 (i+1) _,by omega,le_sub ⟨rfl,rfl,rfl,rfl,rfl,trivial⟩ ⟨rfl,rfl,trivial⟩ rfl rfl rfl (keepLt0 _),M3,_,_,[],i+1,by rw[if_neg h0],by omega,hM.trans c1,.inr ⟨h0,by rw[List.length_append,hD.len];rfl,by rw[if_pos hs0,hstop h0]⟩,rfl⟩
end
section
variable {M:Mem}{K:AV→Hp→Mem→Prop}
def rOK(l:List Int)(i:Nat):Prop:=∀j (h:j<l.length),j<i→-1≤l[j]∧l[j]<(j:Int)
instance (l:List Int) (i:Nat):Decidable (rOK l i):=by unfold rOK;infer_instance
def chkL(l:List Int):Bool:=decide (1≤l.length∧l.length≤8∧rOK l l.length)
theorem rOK_succ{l:List Int}{i:Nat}(h:rOK l i)(hi:i<l.length)(h1 : -1≤l[i])(h2:l[i]<(i:Int)):rOK l (i+1):=fun j hj hlt=>by
  by_cases e:j=i
  · subst e;exact ⟨h1,h2⟩
  · exact h j hj (by omega)
def rngV(u:Value):Value:=.agg #[u]
def checkSt(M:Mem)(u:Value)(n:Nat)(i:Nat):St:={env:=[(8,.ext (.int .i64 (i:Int))),(7,.ext (.int .i64 (n:Int))),(6,.ext u),(2,.ext (.bool false)),(1,.own 1 0)],hp:=[(1,27,[.ext u])],M:=M,kb:=0,fx:=[]}
def checkI(M:Mem)(u:Value)(l:List Int)(m:Nat)(z:St):Prop:=∃i,i≤l.length∧rOK l i∧m=l.length-i∧z=checkSt M u l.length i
theorem pchk_ok(u:Value)(l:List Int)(hu:IsL M intV64 u l)(hb:l.length<1000000000)(hK:K (.ext (.bool (chkL l))) [] M):CallS Tryz.prog 115 [.ext (rngV u)] [] M [] K:=by
  refine inlS (cs:=[]) Tryz.mixed Tryz.func115 rfl (by kernel_rfl) 0 rfl rfl ?_
  simp only[Tryz.f115,rngV]
  (replace hb0:=true_and True);have hf:=A3 hu.one hu.len hu.sl;refine sV ?_;(repeat' ((first|((with_reducible first|refine brv_mk ?_ ?_|refine gsplitD ?_ ?_|refine gsplitG ?_ ?_)<;>intro h<;>(try simp only[Bool.not_eq_true',Bool.not_eq_false']at h)<;>replace hb0:=h)|refine oB ?_|fail)<;>refine sV ?_<;>try with_reducible exact tT))<;>try clear hf
  refine ⟨checkI M u l,⟨l.length,checkSt M u l.length 0,le_sub ⟨rfl,rfl,rfl,rfl,rfl,trivial⟩ ⟨rfl,trivial⟩ rfl rfl rfl (keepLt0 _),⟨0,by omega,fun j hj h=>by omega,by omega,rfl⟩⟩,?_⟩
  rintro m z ⟨i,hi,hr,rfl,rfl⟩
  by_cases hlt:i<l.length
  · have hf:=hu.idx (P:=Tryz.prog) (T:=3) tk3 tz3 (by omega) hlt
    (replace hb0:=true_and True);have hf:=A4 hf @checkSt.eq_1 @intV64.eq_1 hu.one;refine sV ?_;(repeat' ((first|((with_reducible first|refine brv_mk ?_ ?_|refine gsplitD ?_ ?_|refine gsplitG ?_ ?_)<;>intro h<;>(try simp only[Bool.not_eq_true',Bool.not_eq_false']at h)<;>replace hb0:=h)|refine oB ?_|fail)<;>refine sV ?_<;>try with_reducible exact tT))<;>try clear hf
    · have e:chkL l=false:=by
        simp only[Bool.or_eq_true,decide_eq_true_eq]at h
        simp only[chkL,decide_eq_false_iff_not]
        rintro ⟨_,_,h3⟩
        have:=h3 i hlt hlt
        omega
      rw[e]at hK;exact hK
    · simp only[Bool.or_eq_false_iff,decide_eq_false_iff_not]at h
      exact ⟨l.length-(i+1),checkSt M u l.length (i+1),by omega,le_sub ⟨rfl,rfl,rfl,rfl,rfl,trivial⟩ ⟨rfl,trivial⟩ rfl rfl rfl (keepLt0 _),i+1,by omega,rOK_succ hr hlt (by omega) (by omega),rfl,rfl⟩
  · have hf:=hu.fin hlt
    have ei:i=l.length:=by omega
    subst ei
    have e:chkL l=(decide ((1:Int)≤(l.length:Int))&&decide ((l.length:Int)≤8)):=by
      simp only[chkL,hr,and_true,Bool.decide_and]
      congr 1<;>(refine decide_eq_decide.2 ?_;omega)
    rw[e]at hK
    (replace hb0:=true_and True);have hf:=A3 hf @checkSt.eq_1 hu.one;refine sV ?_;(repeat' ((first|((with_reducible first|refine brv_mk ?_ ?_|refine gsplitD ?_ ?_|refine gsplitG ?_ ?_)<;>intro h<;>(try simp only[Bool.not_eq_true',Bool.not_eq_false']at h)<;>replace hb0:=h)|refine oB ?_|fail)<;>refine sV ?_<;>try with_reducible exact tT))<;>try clear hf
    exact hK
def checkRSt(M:Mem)(u:Value)(i:Nat):St:={env:=[(3,.ext (.int .i64 (i:Int))),(2,.ext (.bool false)),(1,.own 1 0)],hp:=[(1,27,[.ext u])],M:=M,kb:=0,fx:=[]}
def checkRI(M:Mem)(u:Value)(l:List Int)(m:Nat)(z:St):Prop:=∃i,i≤l.length∧rOK l i∧m=l.length-i∧z=checkRSt M u i
theorem checkR_ok(u:Value)(l:List Int)(hu:IsL M intV64 u l)(hb:l.length<1000000000)(hK:K (.ext (.bool (chkL l))) [] M):CallS Tryz.prog 128 [.ext (rngV u)] [] M [] K:=by
  refine inlS (cs:=[]) Tryz.mixed Tryz.func128 rfl (by kernel_rfl) 0 rfl rfl ?_
  simp only[Tryz.f128,rngV]
  (replace hb0:=true_and True);have hf:=A3 hu.one hu.len hu.sl;refine sV ?_;(repeat' ((first|((with_reducible first|refine brv_mk ?_ ?_|refine gsplitD ?_ ?_|refine gsplitG ?_ ?_)<;>intro h<;>(try simp only[Bool.not_eq_true',Bool.not_eq_false']at h)<;>replace hb0:=h)|refine oB ?_|fail)<;>refine sV ?_<;>try with_reducible exact tT))<;>try clear hf
  · have e:chkL l=false:=by
      simp only[Bool.or_eq_true,decide_eq_true_eq]at h
      simp only[chkL,decide_eq_false_iff_not]
      omega
    rw[e]at hK;exact hK
  simp only[Bool.or_eq_false_iff,decide_eq_false_iff_not]at h
  refine ⟨checkRI M u l,⟨l.length,checkRSt M u 0,le_sub ⟨rfl,rfl,rfl,trivial⟩ ⟨rfl,trivial⟩ rfl rfl rfl (keepLt0 _),⟨0,by omega,fun j hj h=>by omega,by omega,rfl⟩⟩,?_⟩
  rintro m z ⟨i,hi,hr,rfl,rfl⟩
  by_cases hlt:i<l.length
  · have hf:=hu.idx (P:=Tryz.prog) (T:=3) tk3 tz3 (by omega) hlt
    (replace hb0:=true_and True);have hf:=A4 hf @checkRSt.eq_1 @intV64.eq_1 hu.one;refine sV ?_;(repeat' ((first|((with_reducible first|refine brv_mk ?_ ?_|refine gsplitD ?_ ?_|refine gsplitG ?_ ?_)<;>intro h<;>(try simp only[Bool.not_eq_true',Bool.not_eq_false']at h)<;>replace hb0:=h)|refine oB ?_|fail)<;>refine sV ?_<;>try with_reducible exact tT))<;>try clear hf
    all_goals
      clear hf
      simp only[Bool.or_eq_true,Bool.or_eq_false_iff,decide_eq_true_eq,decide_eq_false_iff_not]at *
    all_goals first
      | exact ⟨l.length-(i+1),checkRSt M u (i+1),by omega,le_sub ⟨rfl,rfl,rfl,trivial⟩ ⟨rfl,trivial⟩ rfl rfl rfl (keepLt0 _),i+1,by omega,rOK_succ hr hlt (by omega) (by omega),rfl,rfl⟩
      | (have e:chkL l=false:=by
           simp only[chkL,decide_eq_false_iff_not]
           rintro ⟨_,_,h3⟩
           have:=h3 i hlt hlt
           omega
         rw[e]at hK;exact hK)
  · have hf:=hu.fin hlt
    have ei:i=l.length:=by omega
    subst ei
    have e:chkL l=true:=by
      simp only[chkL,decide_eq_true_eq]
      exact ⟨by omega,by omega,hr⟩
    rw[e]at hK
    (replace hb0:=true_and True);have hf:=A3 hf @checkRSt.eq_1 hu.one;refine sV ?_;(repeat' ((first|((with_reducible first|refine brv_mk ?_ ?_|refine gsplitD ?_ ?_|refine gsplitG ?_ ?_)<;>intro h<;>(try simp only[Bool.not_eq_true',Bool.not_eq_false']at h)<;>replace hb0:=h)|refine oB ?_|fail)<;>refine sV ?_<;>try with_reducible exact tT))<;>try clear hf
    exact hK
theorem isSet_ok(u:Value)(l:List Int)(s:Int)(hu:IsL M intV64 u l)(hb:l.length≤8)(hK:K (.ext (.bool (decide (0≤s∧s<2^l.length)))) [] M):CallS Tryz.prog 150 [.ext (rngV u),.ext (.int .i64 s)] [] M [] K:=by
  refine inlS (cs:=[]) Tryz.mixed Tryz.func150 rfl (by kernel_rfl) 0 rfl rfl ?_
  simp only[Tryz.f150,rngV]
  have hs:=shl_one (i:=l.length) (by omega)
  have e:decide (0≤s∧s<2^l.length)=(decide (0≤s)&&decide (s<((2^l.length:Nat):Int))):=by
    rw[Bool.decide_and];simp
  rw[e]at hK
  (replace hb0:=true_and True);have hf:=A4 hu.one hu.len hu.sl hs;refine sV ?_;(repeat' ((first|((with_reducible first|refine brv_mk ?_ ?_|refine gsplitD ?_ ?_|refine gsplitG ?_ ?_)<;>intro h<;>(try simp only[Bool.not_eq_true',Bool.not_eq_false']at h)<;>replace hb0:=h)|refine oB ?_|fail)<;>refine sV ?_<;>try with_reducible exact tT))<;>try clear hf
  all_goals exact hK
end
section
variable {M:Mem}{K:AV→Hp→Mem→Prop}
theorem in_ok(s i:Nat)(hs:s<2^63)(hi:i<62)(hK:K (.ext (.bool (s.testBit i))) [] M):CallS Tryz.prog 53 [.ext (.int .i64 (s:Int)),.ext (.int .i64 (i:Int))] [] M [] K:=by
  refine inlS (cs:=[]) Tryz.mixed Tryz.func53 rfl (by kernel_rfl) 0 rfl rfl ?_
  simp only[Tryz.f53]
  have h1:=shr_nat s i (by omega)
  have h2:=in_bit s i hs
  (replace hb0:=true_and True);have hf:=A2 h1 h2;refine sV ?_;(repeat' ((first|((with_reducible first|refine brv_mk ?_ ?_|refine gsplitD ?_ ?_|refine gsplitG ?_ ?_)<;>intro h<;>(try simp only[Bool.not_eq_true',Bool.not_eq_false']at h)<;>replace hb0:=h)|refine oB ?_|fail)<;>refine sV ?_<;>try with_reducible exact tT))<;>try clear hf
  exact hK
def effG(l:List Int)(p:Nat):Nat→Nat→Nat→Nat
  | 0,out,_=>out
  | i+1,out,rev=>if (p.testBit i&&!rev.testBit i)=true then effG l p i (out ||| 2^i) (if decide (0≤l.getD i (-1))=true then rev ||| 2^(l.getD i (-1)).toNat else rev) else effG l p i out rev
def effN(l:List Int)(p:Nat):Nat:=effG l p l.length 0 0
def effSt(M:Mem)(u:Value)(p:Nat)(i:Int)(out rev:Nat):St:={env:=[(7,.ext (.int .i64 i)),(6,.ext (.int .i64 (rev:Int))),(5,.ext (.int .i64 (out:Int))),(4,.ext (.int .i64 0)),(2,.own 2 0),(1,.ext (.int .i64 (p:Int)))],hp:=[(2,27,[.ext u])],M:=M,kb:=0,fx:=[]}
def effI(M:Mem)(u:Value)(l:List Int)(p m:Nat)(z:St):Prop:=∃i out rev,out<256∧rev<256∧(m:Int)=i+1∧i<l.length∧effG l p m out rev=effN l p∧z=effSt M u p i out rev
theorem lt_pow8{i:Nat}(h:i<8):2^i<256:=by
  have:2^i≤2^7:=Nat.pow_le_pow_right (by decide) (by omega)
  omega
theorem or_lt8{a b:Nat}(ha:a<256)(hb:b<256):a ||| b<256:=Nat.or_lt_two_pow (n:=8) ha hb
theorem effective_ok(u:Value)(l:List Int)(p:Nat)(hu:IsL M intV64 u l)(hl:chkL l=true)(hp:p<256)(hK:K (.ext (.int .i64 ((effN l p:Nat):Int))) [] M):CallS Tryz.prog 151 [.ext (rngV u),.ext (.int .i64 (p:Int))] [] M [] K:=by
  simp only[chkL,decide_eq_true_eq]at hl
  obtain ⟨hl1,hl2,hl3⟩:=hl
  have hw:IntKind.i64.wrap ((l.length:Int)-1)=(l.length:Int)-1:=wrap_id (by omega) (by omega)
  refine inlS (cs:=[]) Tryz.mixed Tryz.func151 rfl (by kernel_rfl) 0 rfl rfl ?_
  simp only[Tryz.f151,rngV]
  (replace hb0:=true_and True);have hf:=A4 hu.one hu.len hu.sl hw;refine sV ?_;(repeat' ((first|((with_reducible first|refine brv_mk ?_ ?_|refine gsplitD ?_ ?_|refine gsplitG ?_ ?_)<;>intro h<;>(try simp only[Bool.not_eq_true',Bool.not_eq_false']at h)<;>replace hb0:=h)|refine oB ?_|fail)<;>refine sV ?_<;>try with_reducible exact tT))<;>try clear hf
  refine ⟨effI M u l p,⟨l.length,effSt M u p ((l.length:Int)-1) 0 0,le_sub ⟨rfl,rfl,rfl,rfl,rfl,rfl,trivial⟩ ⟨rfl,trivial⟩ rfl rfl rfl (keepLt0 _),⟨(l.length:Int)-1,0,0,by decide,by decide,by omega,by omega,rfl,rfl⟩⟩,?_⟩
  rintro m z ⟨i,out,rev,ho,hr,hm,hi,he,rfl⟩
  cases m with
  | zero=>
    have h0:decide (0≤i)=false:=by simp;omega
    (replace hb0:=true_and True);have hf:=A5 hu.one hu.len hu.sl @effSt.eq_1 h0;refine sV ?_;(repeat' ((first|((with_reducible first|refine brv_mk ?_ ?_|refine gsplitD ?_ ?_|refine gsplitG ?_ ?_)<;>intro h<;>(try simp only[Bool.not_eq_true',Bool.not_eq_false']at h)<;>replace hb0:=h)|refine oB ?_|fail)<;>refine sV ?_<;>try with_reducible exact tT))<;>try clear hf
    rw[←he]at hK
    exact hK
  | succ j=>
    have ei:i=(j:Int):=by omega
    subst ei
    have hj:j<l.length:=by omega
    have hf:=hu.idx (P:=Tryz.prog) (T:=3) tk3 tz3 (by omega) hj
    have hs:=shl_one (i:=j) (by omega)
    have hj8:=lt_pow8 (show j<8 by omega)
    have b1:bits .andNot .i64 (p:Int) (rev:Int)=((ndif p rev:Nat):Int):=bits_ndif (by omega)
    have b2:bits .and .i64 ((ndif p rev:Nat):Int) ((2^j:Nat):Int)=((ndif p rev &&& 2^j:Nat):Int):=bits_and (Nat.lt_of_le_of_lt (ndif_le p rev (by omega)) (by omega)) (by omega)
    have b3:decide (((ndif p rev &&& 2^j:Nat):Int)=0) = !(p.testBit j&&!rev.testBit j):=by rw[and_bit0,ndif_bit (by omega)]
    have b4:bits .or .i64 (out:Int) ((2^j:Nat):Int)=((out ||| 2^j:Nat):Int):=bits_or (by omega) (by omega)
    have hw2:IntKind.i64.wrap ((j:Int)-1)=(j:Int)-1:=wrap_id (by omega) (by omega)
    have hge:decide (0≤(j:Int))=true:=by simp
    have ho2:=or_lt8 ho hj8
    have hg:l.getD j (-1)=l[j]:=by simp[List.getD,hj]
    simp only[effG,hg]at he
    cases hT:(p.testBit j&&!rev.testBit j)
    · rw[hT]at he b3
      simp only[Bool.false_eq_true,if_false]at he
      (replace hb0:=true_and True);refine Go1.mk ?_;repeat' ((first|(with_reducible refine Go1.go ?_)|((with_reducible first|refine brv_mk ?_ ?_|refine gsplitD ?_ ?_|refine gsplitG ?_ ?_)<;>intro h<;>(try simp only[Bool.not_eq_true',Bool.not_eq_false']at h)<;>replace hb0:=h)|(refine And.intro ?_ ?_;(try simp only[sxO]at *);omega)|fail)<;>(try simp (maxSteps:=1000000) only [hb0,hf,hs,b1,b2,b3,b4,hw2,hge,effSt,intV64,hu.one,Bool.not_false,Bool.not_true,↓hold_pre,awayP,runOps,regK,step1,newK,genR,appR,obl,buildR,Value.cells,closeK,keepH,outV,retK,ret1,retC,RetV,Option.getD,runD,stepD,afterK,undef,simprocAttr,sxB,↓sxD,sxE,sxTab]))
      exact ⟨j,effSt M u p ((j:Int)-1) out rev,by omega,le_sub ⟨rfl,rfl,rfl,rfl,rfl,rfl,trivial⟩ ⟨rfl,trivial⟩ rfl rfl rfl (keepLt0 _),(j:Int)-1,out,rev,ho,hr,by omega,by omega,he,rfl⟩
    · rw[hT]at he b3
      simp only[if_true]at he
      have hb:=hl3 j hj hj
      cases hD:decide (0≤l[j])
      · rw[hD]at he
        simp only[Bool.false_eq_true,if_false]at he
        (replace hb0:=true_and True);refine Go1.mk ?_;repeat' ((first|(with_reducible refine Go1.go ?_)|((with_reducible first|refine brv_mk ?_ ?_|refine gsplitD ?_ ?_|refine gsplitG ?_ ?_)<;>intro h<;>(try simp only[Bool.not_eq_true',Bool.not_eq_false']at h)<;>replace hb0:=h)|(refine And.intro ?_ ?_;(try simp only[sxO]at *);omega)|fail)<;>(try simp (maxSteps:=1000000) only [hb0,hf,hs,b1,b2,b3,b4,hw2,hge,effSt,intV64,hu.one,hD,Bool.not_false,Bool.not_true,↓hold_pre,awayP,runOps,regK,step1,newK,genR,appR,obl,buildR,Value.cells,closeK,keepH,outV,retK,ret1,retC,RetV,Option.getD,runD,stepD,afterK,undef,simprocAttr,sxB,↓sxD,sxE,sxTab]))
        exact ⟨j,effSt M u p ((j:Int)-1) (out ||| 2^j) rev,by omega,le_sub ⟨rfl,rfl,rfl,rfl,rfl,rfl,trivial⟩ ⟨rfl,trivial⟩ rfl rfl rfl (keepLt0 _),(j:Int)-1,out ||| 2^j,rev,ho2,hr,by omega,by omega,he,rfl⟩
      · rw[hD]at he
        simp only[if_true]at he
        simp only[decide_eq_true_eq]at hD
        obtain ⟨q,hq⟩:=Int.eq_ofNat_of_zero_le hD
        have hD2:decide (0≤(q:Int))=true:=by simp
        have hs2:=shl_one (i:=q) (by omega)
        have hq8:=lt_pow8 (show q<8 by omega)
        have b5:bits .or .i64 (rev:Int) ((2^q:Nat):Int)=((rev ||| 2^q:Nat):Int):=bits_or (by omega) (by omega)
        rw[hq,Int.toNat_natCast]at he
        rw[hq]at hf
        (replace hb0:=true_and True);refine Go1.mk ?_;repeat' ((first|(with_reducible refine Go1.go ?_)|((with_reducible first|refine brv_mk ?_ ?_|refine gsplitD ?_ ?_|refine gsplitG ?_ ?_)<;>intro h<;>(try simp only[Bool.not_eq_true',Bool.not_eq_false']at h)<;>replace hb0:=h)|(refine And.intro ?_ ?_;(try simp only[sxO]at *);omega)|fail)<;>(try simp (maxSteps:=1000000) only [hb0,hf,hs,hs2,b1,b2,b3,b4,b5,hw2,hge,effSt,intV64,hu.one,hD2,Bool.not_false,Bool.not_true,↓hold_pre,awayP,runOps,regK,step1,newK,genR,appR,obl,buildR,Value.cells,closeK,keepH,outV,retK,ret1,retC,RetV,Option.getD,runD,stepD,afterK,undef,simprocAttr,sxB,↓sxD,sxE,sxTab]))
        exact ⟨j,effSt M u p ((j:Int)-1) (out ||| 2^j) (rev ||| 2^q),by omega,le_sub ⟨rfl,rfl,rfl,rfl,rfl,rfl,trivial⟩ ⟨rfl,trivial⟩ rfl rfl rfl (keepLt0 _),(j:Int)-1,out ||| 2^j,rev ||| 2^q,ho2,or_lt8 hr hq8,by omega,by omega,he,rfl⟩
end
def dd(l:List Int)(out i k:Nat):Bool:=(List.range k).any fun j=>decide (i<j)&&(out.testBit j&&decide (l.getD j (-1)=(i:Int)))
theorem dd_iff{l:List Int}{out i k:Nat}:dd l out i k=true↔∃j,j<k∧i<j∧out.testBit j=true∧l.getD j (-1)=(i:Int):=by
  simp[dd,List.any_eq_true]
theorem dd_succ{l:List Int}{out i k:Nat}(h:i<k):dd l out i (k+1)=(dd l out i k || (out.testBit k&&decide (l.getD k (-1)=(i:Int)))):=by
  simp[dd,List.range_succ,List.any_append,h]
theorem dd_start{l:List Int}{out i:Nat}:dd l out i (i+1)=false:=by
  rw[Bool.eq_false_iff]
  intro h
  obtain ⟨j,h1,h2,_⟩:=dd_iff.1 h
  omega
def alG(l:List Int)(p:Nat):Nat→Nat→Nat
  | 0,out=>out
  | i+1,out=>alG l p i (if (p.testBit i&&!dd l out i l.length)=true then out+2^i else out)
theorem orAdd{out i:Nat}(h:out % 2^(i+1)=0):out ||| 2^i=out+2^i:=by
  obtain ⟨q,rfl⟩:=Nat.dvd_of_mod_eq_zero h
  exact (Nat.two_pow_add_eq_or_of_lt (Nat.pow_lt_pow_right (by decide) (Nat.lt_succ_self i)) q).symm
theorem mod_down{out i:Nat}(h:out % 2^(i+1)=0):out % 2^i=0:=by
  obtain ⟨q,rfl⟩:=Nat.dvd_of_mod_eq_zero h
  rw[Nat.pow_succ,Nat.mul_assoc]
  exact Nat.mul_mod_right _ _
theorem mod_down2{out i:Nat}(h:out % 2^(i+1)=0):(out+2^i) % 2^i=0:=by
  rw[Nat.add_mod_right];exact mod_down h
theorem bit_low{out i:Nat}(h:out % 2^(i+1)=0):out.testBit i=false:=by
  obtain ⟨q,rfl⟩:=Nat.dvd_of_mod_eq_zero h
  rw[Nat.testBit_two_pow_mul]
  have:¬(i+1≤i):=by omega
  simp[this]
theorem eff_al(l:List Int)(p:Nat)(hl:∀j (h:j<l.length),-1≤l[j]∧l[j]<(j:Int)):∀(i out rev:Nat),i≤l.length→(∀j,j<i→rev.testBit j=dd l out j l.length)→out % 2^i=0→effG l p i out rev=alG l p i out
  | 0,_,_,_,_,_=>rfl
  | i+1,out,rev,hi,hr,ho=>by
    have h1:=hr i (Nat.lt_succ_self i)
    have hlow:=bit_low ho
    have hg:l.getD i (-1)=l[i]:=by simp[List.getD,show i<l.length by omega]
    have hb:=hl i (by omega)
    simp only[effG,alG]
    rw[h1]
    by_cases hc:(p.testBit i&&!dd l out i l.length)=true
    · rw[if_pos hc,if_pos hc,orAdd ho]
      refine eff_al l p hl i _ _ (by omega) (fun j hj=>?_) (mod_down2 ho)
      have hbit:∀k,(out+2^i).testBit k=(out.testBit k || decide (i=k)):=fun k=>by rw[←orAdd ho,Nat.testBit_or,Nat.testBit_two_pow]
      have h2:dd l (out+2^i) j l.length=(dd l out j l.length || decide (l[i]=(j:Int))):=by
        rw[Bool.eq_iff_iff,Bool.or_eq_true,dd_iff,dd_iff,decide_eq_true_eq]
        constructor
        · rintro ⟨k,k1,k2,k3,k4⟩
          rw[hbit,Bool.or_eq_true,decide_eq_true_eq]at k3
          rcases k3 with k3|rfl
          · exact .inl ⟨k,k1,k2,k3,k4⟩
          · rw[hg]at k4;exact .inr k4
        · rintro (⟨k,k1,k2,k3,k4⟩|h)
          · exact ⟨k,k1,k2,by rw[hbit,k3];rfl,k4⟩
          · exact ⟨i,by omega,hj,by rw[hbit];simp,by rw[hg];exact h⟩
      rw[h2,←hr j (by omega),hg]
      by_cases hd:0≤l[i]
      · obtain ⟨q,hq⟩:=Int.eq_ofNat_of_zero_le hd
        rw[if_pos (by simpa using hd),Nat.testBit_or,Nat.testBit_two_pow]
        congr 1
        refine decide_eq_decide.2 ?_
        omega
      · rw[if_neg (by simpa using hd)]
        have:decide (l[i]=(j:Int))=false:=by simp;omega
        rw[this,Bool.or_false]
    · rw[if_neg hc,if_neg hc]
      exact eff_al l p hl i _ _ (by omega) (fun j hj=>hr j (by omega)) (mod_down ho)
theorem eff_alN{l:List Int}{p:Nat}(hl:chkL l=true):alG l p l.length 0=effN l p:=by
  simp only[chkL,decide_eq_true_eq]at hl
  refine (eff_al l p (fun j h=>hl.2.2 j h h) l.length 0 0 (Nat.le_refl _) (fun j hj=>?_) (by simp)).symm
  rw[Nat.zero_testBit]
  refine (Bool.eq_false_iff.2 fun h=>?_).symm
  obtain ⟨k,_,_,h3,_⟩:=dd_iff.1 h
  simp at h3
section
variable {M:Mem}{K:AV→Hp→Mem→Prop}
def alSt(M:Mem)(u:Value)(p:Nat)(i:Int)(out:Nat):St:={env:=[(6,.ext (.int .i64 i)),(5,.ext (.int .i64 (out:Int))),(4,.ext (.int .i64 0)),(2,.own 2 0),(1,.ext (.int .i64 (p:Int)))],hp:=[(2,27,[.ext u])],M:=M,kb:=0,fx:=[]}
def alI(M:Mem)(u:Value)(l:List Int)(p m:Nat)(z:St):Prop:=∃i out,out<256∧out % 2^m=0∧(m:Int)=i+1∧i<l.length∧alG l p m out=effN l p∧z=alSt M u p i out
def alSt2(M:Mem)(u:Value)(p:Nat)(i:Int)(out:Nat)(al:Bool)(k:Nat):St:={env:=[(8,.ext (.int .i64 (k:Int))),(7,.ext (.bool al)),(6,.ext (.int .i64 i)),(5,.ext (.int .i64 (out:Int))),(4,.ext (.int .i64 0)),(2,.own 2 0),(1,.ext (.int .i64 (p:Int)))],hp:=[(2,27,[.ext u])],M:=M,kb:=0,fx:=[]}
def alI2(M:Mem)(u:Value)(l:List Int)(p j out m:Nat)(z:St):Prop:=∃k al,j<k∧k≤l.length∧m=l.length-k∧al=(p.testBit j&&!dd l out j k)∧z=alSt2 M u p (j:Int) out al k
theorem alive_ok(u:Value)(l:List Int)(p:Nat)(hu:IsL M intV64 u l)(hl':chkL l=true)(hp:p<256)(hK:K (.ext (.int .i64 ((effN l p:Nat):Int))) [] M):CallS Tryz.prog 24 [.ext (rngV u),.ext (.int .i64 (p:Int))] [] M [] K:=by
  have hl:=hl'
  simp only[chkL,decide_eq_true_eq]at hl
  obtain ⟨hl1,hl2,hl3⟩:=hl
  have hw:IntKind.i64.wrap ((l.length:Int)-1)=(l.length:Int)-1:=wrap_id (by omega) (by omega)
  refine inlS (cs:=[]) Tryz.mixed Tryz.func24 rfl (by kernel_rfl) 0 rfl rfl ?_
  simp only[Tryz.f24,rngV]
  (replace hb0:=true_and True);have hf:=A4 hu.one hu.len hu.sl hw;refine sV ?_;(repeat' ((first|((with_reducible first|refine brv_mk ?_ ?_|refine gsplitD ?_ ?_|refine gsplitG ?_ ?_)<;>intro h<;>(try simp only[Bool.not_eq_true',Bool.not_eq_false']at h)<;>replace hb0:=h)|refine oB ?_|fail)<;>refine sV ?_<;>try with_reducible exact tT))<;>try clear hf
  refine ⟨alI M u l p,⟨l.length,alSt M u p ((l.length:Int)-1) 0,le_sub ⟨rfl,rfl,rfl,rfl,rfl,trivial⟩ ⟨rfl,trivial⟩ rfl rfl rfl (keepLt0 _),⟨(l.length:Int)-1,0,by decide,by simp,by omega,by omega,eff_alN hl',rfl⟩⟩,?_⟩
  rintro m z ⟨i,out,ho,hom,hm,hi,he,rfl⟩
  cases m with
  | zero=>
    have h0:decide (0≤i)=false:=by simp;omega
    (replace hb0:=true_and True);have hf:=A5 hu.one hu.len hu.sl @alSt.eq_1 h0;refine sV ?_;(repeat' ((first|((with_reducible first|refine brv_mk ?_ ?_|refine gsplitD ?_ ?_|refine gsplitG ?_ ?_)<;>intro h<;>(try simp only[Bool.not_eq_true',Bool.not_eq_false']at h)<;>replace hb0:=h)|refine oB ?_|fail)<;>refine sV ?_<;>try with_reducible exact tT))<;>try clear hf
    rw[←he]at hK
    exact hK
  | succ j=>
    have ei:i=(j:Int):=by omega
    subst ei
    have hj:j<l.length:=by omega
    have hs:=shl_one (i:=j) (by omega)
    have hj8:=lt_pow8 (show j<8 by omega)
    have hw2:IntKind.i64.wrap ((j:Int)-1)=(j:Int)-1:=wrap_id (by omega) (by omega)
    have hw3:IntKind.i64.wrap ((j:Int)+1)=((j+1:Nat):Int):=by rw[wrap_id (by omega) (by omega)];omega
    have hge:decide (0≤(j:Int))=true:=by simp
    have hor:=or_lt8 ho hj8
    rw[orAdd hom]at hor
    have hadd:IntKind.i64.wrap ((out:Int)+((2^j:Nat):Int))=((out+2^j:Nat):Int):=by rw[wrap_id (by omega) (by omega)];omega
    simp only[alG]at he
    (replace hb0:=true_and True);have hf:=A4 hw3 hge @alSt.eq_1 hu.one;refine sV ?_;(repeat' ((first|((with_reducible first|refine brv_mk ?_ ?_|refine gsplitD ?_ ?_|refine gsplitG ?_ ?_)<;>intro h<;>(try simp only[Bool.not_eq_true',Bool.not_eq_false']at h)<;>replace hb0:=h)|((with_reducible refine yN ?_);refine kS 53 (in_ok p j (by omega) (by omega) ?_))|refine oB ?_|fail)<;>refine sV ?_<;>try with_reducible exact tT))<;>try clear hf
    refine ⟨alI2 M u l p j out,⟨l.length-(j+1),alSt2 M u p (j:Int) out (p.testBit j) (j+1),le_sub ⟨rfl,rfl,rfl,rfl,rfl,rfl,rfl,trivial⟩ ⟨rfl,trivial⟩ rfl rfl rfl (keepLt0 _),⟨j+1,p.testBit j,by omega,by omega,rfl,by rw[dd_start];simp,rfl⟩⟩,?_⟩
    rintro m2 z ⟨k,al,hk1,hk2,rfl,hal,rfl⟩
    by_cases hlt:k<l.length
    · have hf:=hu.idx (P:=Tryz.prog) (T:=3) tk3 tz3 (by omega) hlt
      have hg:l.getD k (-1)=l[k]:=by simp[List.getD,hlt]
      have hd:=dd_succ (l:=l) (out:=out) hk1
      rw[hg]at hd
      (replace hb0:=true_and True);have hf:=A4 hf @alSt2.eq_1 hu.one @intV64.eq_1;refine sV ?_;(repeat' ((first|((with_reducible first|refine brv_mk ?_ ?_|refine gsplitD ?_ ?_|refine gsplitG ?_ ?_)<;>intro h<;>(try simp only[Bool.not_eq_true',Bool.not_eq_false']at h)<;>replace hb0:=h)|((with_reducible refine yN ?_);refine kS 53 (in_ok out k (by omega) (by omega) ?_))|refine oB ?_|fail)<;>refine sV ?_<;>try with_reducible exact tT))<;>try clear hf
      all_goals clear hf
      all_goals first
        | exact ⟨l.length-(k+1),alSt2 M u p (j:Int) out al (k+1),by omega,le_sub ⟨rfl,rfl,rfl,rfl,rfl,rfl,rfl,trivial⟩ ⟨rfl,trivial⟩ rfl rfl rfl (keepLt0 _),⟨k+1,al,by omega,by omega,rfl,by rw[hd,hal];simp_all,rfl⟩⟩
        | exact ⟨l.length-(k+1),alSt2 M u p (j:Int) out false (k+1),by omega,le_sub ⟨rfl,rfl,rfl,rfl,rfl,rfl,rfl,trivial⟩ ⟨rfl,trivial⟩ rfl rfl rfl (keepLt0 _),⟨k+1,false,by omega,by omega,rfl,by rw[hd];simp_all,rfl⟩⟩
    · have hf:=hu.fin hlt
      have ek:k=l.length:=by omega
      subst ek
      rw[←hal]at he
      cases al
      · simp only[Bool.false_eq_true,if_false]at he
        (replace hb0:=true_and True);have hf:=A4 hf @alSt2.eq_1 hu.one hw2;refine sV ?_;(repeat' ((first|((with_reducible first|refine brv_mk ?_ ?_|refine gsplitD ?_ ?_|refine gsplitG ?_ ?_)<;>intro h<;>(try simp only[Bool.not_eq_true',Bool.not_eq_false']at h)<;>replace hb0:=h)|refine oB ?_|fail)<;>refine sV ?_<;>try with_reducible exact tT))<;>try clear hf
        exact ⟨j,alSt M u p ((j:Int)-1) out,by omega,le_sub ⟨rfl,rfl,rfl,rfl,rfl,trivial⟩ ⟨rfl,trivial⟩ rfl rfl rfl (keepLt0 _),(j:Int)-1,out,ho,mod_down hom,by omega,by omega,he,rfl⟩
      · simp only[if_true]at he
        (replace hb0:=true_and True);have hf:=A6 hf @alSt2.eq_1 hu.one hw2 hs hadd;refine sV ?_;(repeat' ((first|((with_reducible first|refine brv_mk ?_ ?_|refine gsplitD ?_ ?_|refine gsplitG ?_ ?_)<;>intro h<;>(try simp only[Bool.not_eq_true',Bool.not_eq_false']at h)<;>replace hb0:=h)|refine oB ?_|fail)<;>refine sV ?_<;>try with_reducible exact tT))<;>try clear hf
        exact ⟨j,alSt M u p ((j:Int)-1) (out+2^j),by omega,le_sub ⟨rfl,rfl,rfl,rfl,rfl,trivial⟩ ⟨rfl,trivial⟩ rfl rfl rfl (keepLt0 _),(j:Int)-1,out+2^j,hor,mod_down2 hom,by omega,by omega,he,rfl⟩
end
end Go.Proofs.YtiipiciemgdaeaaGreat.Sx
